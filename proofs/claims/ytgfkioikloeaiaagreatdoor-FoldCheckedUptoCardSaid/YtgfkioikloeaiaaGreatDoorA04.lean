/- Merged texts of one road: CkD, CkE, Shp, Txt, Pre, Tpa, Tpb, Tpc, CkF, CkG, CkH, CkI, CkK, Byt. Conditions: each text's own. -/
import Derived.Test.YtgfkioikloeaiaaGreatDoorA03
import Derived.Lib.ItoaNum
import Derived.Test.YtgfkioikloeaiaaGreatDoorA01
import Derived.Laws.MakeOwn
import Derived.Laws.BytesString
import Derived.Lib.ConvBytes
import Derived.Lib.AtoiErrMem
import Derived.Laws.OwnMore
set_option linter.unusedSimpArgs false
set_option linter.unusedVariables false
namespace Go.Rk
open Go.Proofs
open Go Go.RowKit
theorem Vj {F : Nd} {n0 b : Nat} {S : CSt} {w : World} (a e : Int) (h : Chk F n0 b S w) : Ret PP Vpb #[.pointer (some ⟨b, 0, none⟩), .int .i64 a, .int .i64 e] w fun r w' => r = .tuple #[] ∧ Chk F n0 b (failS a e S) w' ∧ GT mutR n0 w w' := by
 obtain ⟨fv, sv, sn, h⟩ := h
 have g := GT.refl mutR n0 w
 refine Yp (m := 19) Yyb J J [(0, True, _), (1, True, _), (2, True, _)] (Za J (Za J (Za J (Zj _)))) ?_
 refine Ze (Zg (Zt J (Ui J (Zx Va J (Yg Zba J (h.B.at_ J) (Xt J J (Zb (kq (Yv J (fun h1 => ?_) (fun h1 => ?_))))))))))
 ·(try simp only [Xq] at h1)
  refine Zg (Zt J (Zt J (Zt J (Zt J (Ui J (Zx Qs J (Ww J Vb (Zk J) (Zk J) J J h.B J J ?_)))))))
  intro wA hgA hzA BA
  have g := Yja g hgA h.B rfl h.hb
  have h := h.set (S' := { S with ea := a }) hgA BA rfl rfl
  refine Ui J (Zx Va J (Ww J Xid (Zk J) (Zk J) J J h.B J J ?_))
  intro wC hgC hzC BC
  have g := Yja g hgC h.B rfl h.hb
  have h := h.set (S' := { S with ea := a, ee := e }) hgC BC rfl rfl
  refine Zb (Xra J ?_)
  refine ⟨rfl, ?_, g⟩
  unfold failS; rw [h1]; exact h.chk
 refine Yc (Xra J ?_)
 refine ⟨rfl, ?_, g⟩
 unfold failS; rw [h1]; exact h.chk
theorem Uw (t : Nd) (p : Option Addr) (c : Nat) (w : World) : Ret PP Yvd #[ndV t (.slice p t.kids.length c)] w fun r w' => r = ndV (clnT t) (.slice none 0 0) ∧ G w w' := by
 have g := G.refl w
 refine Yp (m := 16) Vec J J [(0, True, _)] (Za J (Zj _)) ?_
 refine Ze (Zg (Wq J (Zk J) J ?_))
 intro b1 w1 N1
 have l1 := N1.ge g
 have g := g.trans N1.g
 have E := (Wo _).new N1
 refine Yh J Zm J ?_
 intro b2 w2 N2
 have l2 := N2.ge g
 have g := g.trans N2.g
 replace E := E.new N2
 refine Zb (kq (Ze (Zg (Zx Yd J (Yg Zu J (E.g1.at_ J) (Zx Ym J (Yg Yr J (E.g1.at_ J) (Zx Xl J (Yg Zu J (E.g1.at_ J) (Uc Zm Wl (pqc J (pqc J (pqc J pq0))) J J (Ya J (Zo Yyd Yo (aqc J aq0) J) (Urd (.mk t.kind t.text t.num 0 [] ty0 0 0) _ J) ?_)))))))))))
 rintro v11 w11 ⟨rfl, g11⟩
 refine ⟨fun _ => g11, ?_⟩
 have g := g.trans g11
 replace E := E.grow g11
 refine Yh J Zm J ?_
 intro b3 w3 N3
 have l3 := N3.ge g
 have g := g.trans N3.g
 replace E := E.new N3
 refine Yt Zl J J J E.g0 ?_
 intro wS1 hgS1 _ BS
 replace E := E.s0 hgS1 BS
 have g := Zw g hgS1 (by omega)
 refine Zb (kq (Ze (Zg (Zx Yw J (Yg Zu J (E.g2.at_ J) (Zx Yw J (Vz Vb J J J E.g0 ?_)))))))
 intro wS2 hgS2 _ BS
 replace E := E.s0 hgS2 BS
 have g := Zw g hgS2 (by omega)
 refine Zb (kq (Ze (Zg (?_))))
 have B3 : Blk wS2 b3 Vd (ndCells (clnT t) (.slice none 0 0)) := by
  have h := E.g0
  rw [Wsb] at h; exact h
 replace E := E.r0 B3
 refine Yk Zc J J E.g0.row (Yt Zl J J J E.g1 ?_)
 intro wS3 hgS3 _ BS
 replace E := E.s1 hgS3 BS
 have g := Zw g hgS3 (by omega)
 refine Zb (kq (Zr (Xj J (Yy J Zc J (E.g1.row) (Yf)) ?_)))
 exact ⟨rfl, g⟩
theorem Zff : ∀ (t : Nd) (v : Value) (D : Nat → Prop) (w : World), Kd w D t.kids v → count t ≤ 1000000 → Ret PP Ydc #[ndV t v] w fun r w' => RetN (plainT t) w.heap.size r w' ∧ G w w' := by
 refine Nd.ind fun t ih v D w hk hc => ?_
 have hlen := Qt t
 obtain ⟨p, c, rfl, hcap, hks⟩ := hk
 have g := G.refl w
 refine Yp (m := 26) Qoc J J [(0, True, _)] (Za J (Zj _)) ?_
 refine Ze (Zg (Wq J (Zk J) J ?_))
 intro b1 w1 N1
 have l1 := N1.ge g
 have g := g.trans N1.g
 have E := (Wo _).new N1
 refine Yh J Zm J ?_
 intro b2 w2 N2
 have l2 := N2.ge g
 have g := g.trans N2.g
 replace E := E.new N2
 refine Zb (kq (Ze (Zg (Yk Zc J J E.g1.row (Ya J (Zo Vg Yo (aqc J aq0) J) (Uw t _ _ _) ?_)))))
 rintro v6 w6 ⟨rfl, g6⟩
 refine ⟨fun _ => g6, ?_⟩
 have g := g.trans g6
 replace E := E.grow g6
 refine Yh J Zm J ?_
 intro b3 w3 N3
 have l3 := N3.ge g
 have g := g.trans N3.g
 replace E := E.new N3
 refine Yt Zl J J J E.g0 ?_
 intro wS1 hgS1 _ BS
 replace E := E.s0 hgS1 BS
 have g := Zw g hgS1 (by omega)
 refine Zb (kq (Ze (Ze (Zg (?_)))))
 have B3 : Blk wS1 b3 Vd (ndCells (plainT t) (.slice none 0 0)) := by
  have h := E.g0
  rw [Yjc]; exact h
 replace E := E.r0 B3
 refine Zp J (Zb (kq (Yu (?_))))
 have hnd1 := E.1
 refine Jy (fun (i : Nat) u1 => (i ≤ t.kids.length ∧ ∃ s, Blk u1 b3 Vd (ndCells (plainT t) s) ∧ OwnN [b1, b2, b3] w.heap.size u1 ((t.kids.take i).map plainT) s) ∧ G w u1) _ [(1, True, _), (2, True, _), (3, True, _)] (fun (i : Nat) => [(4, True, .int .i64 i)]) (fun (i : Nat) => t.kids.length - i) (0) ⟨⟨Nat.zero_le _, _, E.g0, Wlb _ _ _⟩, g⟩ (Xr (blkE E.g2) (Xr (blkE E.g1) (Ua _))) (Za J (Za J (Za J (Za J (Zj _))))) ?_
 clear E
 rintro i u1 ⟨hI1, gl1⟩ ⟨B1, B2, _⟩
 replace B1 : Blk _ _ _ _ := B1
 replace B2 : Blk _ _ _ _ := B2
 have g := gl1
 obtain ⟨hi, s, B3, hO⟩ := hI1
 obtain ⟨sa, sc, rfl⟩ := hO.slice
 have E := Uwa (L := [(b3, _, _), (b2, _, _), (b1, _, _)]) hnd1 ⟨B3, B2, B1, trivial⟩ rfl
 refine Ze (Ze (Zg (Zt J (Zx Zi J (Yg Zh J (E.g2.at_ J) (Qu Zf J (Zfa J J (Zb (kq (Yv J (fun h1 => ?_) (fun h1 => ?_)))))))))))
 ·replace h2 : i < t.kids.length := by simp only [decide_eq_true_eq] at h1; omega
  obtain ⟨b, o, rfl, hD, xs, hR, hX⟩ := hks (by omega)
  obtain ⟨p', c', hcell, hkid⟩ := Qta hR hX h2
  have hck := Xka h2
  have hkl := Qt t.kids[i]
  have hu := g.size
  refine Yc (kq (Ze (Yu (Wr [3, 0, 3, 0, 3, 3, 0, 1, 1, 2, 3, 2] [true, true, true, true, true, true, true, true, true, true, true, true] [0, 1, 0, 4, 0, 28, 60, 124, 252, 511, 1023, 2047] mix (by kernel_rfl) ?_))))
  have g := gdr g
  replace E := E.dr
  have hO := hO.grow (G.drew _)
  have hB1lt := E.g2.lt
  have hB2lt := E.g1.lt
  have hB3lt := E.g0.lt
  have hOlt := hO.lt
  refine Zx Zi J (Yg Zh J (E.g0.at_ J) (Zx Zi J (Yg Zh J (E.g2.at_ J) (Zt J (Jta Zf J J (by omega) (Yk Zc J J (hcell.grow g) (Ya J (Zo Jz Yo (aqc J aq0) J) (ih _ (List.getElem_mem h2) _ _ _ (hkid.grow g) (by omega)) ?_)))))))
  rintro v21 w21 ⟨⟨p2, c2, rfl, hk2⟩, g21⟩
  refine ⟨fun _ => g21, ?_⟩
  have g := g.trans g21
  replace E := E.grow g21
  have hO := hO.grow (g21)
  refine Yb _ J Zf Zm (pqc J pq0) J J ?_
  intro b22 w22 N22
  have l22 := N22.ge g
  have g := g.trans N22.g
  have hO := hO.grow (N22.g)
  replace E := E.new N22
  have hk2 := hk2.grow N22.g
  have hOo := hO
  refine Ur J Zf Zm J (Zk J) hO (Zk J) J E.g0.row (Wp (hk2.mono fun k hk _ => ⟨⟨⟨by have : u1.heap.size ≤ k := hk.1; omega, by have : u1.heap.size ≤ k := hk.1; have := hB1lt; have := hB2lt; have := hB3lt; simp; omega⟩, hk.2⟩, fun he => by have := hOlt k he.symm; have : u1.heap.size ≤ k := hk.1; omega⟩)) (by simp; omega) (by have := g.size; omega) ⟨by have := g.size; omega, by have q1 := E.g3.lt; have q2 := E.g2.lt; have q3 := E.g1.lt; simp; omega⟩ ?_
  intro a23 c23 w23 hO hg23
  replace E := E.sel [false, true, true, true]
  replace E := E.keepX hg23 hOo.ne (by simp [selB])
  have g := Wqc g hg23 (fun k hk => hOo.ge k hk)
  refine Zx Zi J (Vz Xb J J J E.g0 ?_)
  intro wS2 hgS2 _ BS
  replace E := E.s0 hgS2 BS
  have g := Zw g hgS2 (by omega)
  have hO := hO.keep hgS2 (by simp)
  refine Zb (kq (Zg (Zt J (Qv J J (by omega) (Zp J (Wh [(4, _, _), (1, _, _), (2, _, _), (3, _, _)] (Za J (Za J (Za J (Za J (Zj _))))) (Zb (fun a ha => ?_))))))))
  exact ⟨i + 1, ha, ⟨⟨h2, _, E.g0, by rw [Zgd h2, List.map_append]; exact hO⟩, g⟩, (Xr (blkE E.g2) (Xr (blkE E.g1) (Ua _))), by omega⟩
 replace h2 : i = t.kids.length := by simp only [decide_eq_false_iff_not] at h1; omega
 subst h2
 rw [List.take_length] at hO E
 refine Vq J (kq (Ze (Zg (Yk Zc J J E.g0.row (Yt Zl J J J E.g1 ?_)))))
 intro wS3 hgS3 _ BS
 replace E := E.s1 hgS3 BS
 have g := Zw g hgS3 (by omega)
 have hO := hO.keep hgS3 (by simp)
 refine Zb (kq (Zr (Xj J (Yy J Zc J (E.g1.row) (Yf)) ?_)))
 exact ⟨Xke (by rw [Qeb]; exact hO.kd), g⟩
theorem Yca (F : Nd) (v : Value) (D : Nat → Prop) (w : World) (kd : Int) (s : List UInt8) (hk : Kd w D F.kids v) (hc : count F ≤ 1000000) : Ret PP Vhd #[ndV F v, .int .i64 kd, Str s] w fun r w' => (∃ p c, r = .tuple #[ndV (findD F kd s).1 (.slice p (findD F kd s).1.kids.length c), .int .i64 (findD F kd s).2] ∧ Kd w' D (findD F kd s).1.kids (.slice p (findD F kd s).1.kids.length c)) ∧ G w w' := by
 obtain ⟨p, c, rfl, hcap, hks⟩ := hk
 have hln := Qt F
 have g := G.refl w
 refine Yp (m := 42) Qpc J J [(0, True, _), (1, True, _), (2, True, _)] (Za J (Za J (Za J (Zj _)))) ?_
 refine Ze (Zg (Wq J (Zk J) J ?_))
 intro b3 w3 N3
 have l3 := N3.ge g
 have g := g.trans N3.g
 have E := (Wo _).new N3
 refine Yh J Zm J ?_
 intro b6 w6 N6
 have l6 := N6.ge g
 have g := g.trans N6.g
 replace E := E.new N6
 refine Zp rfl (Zb (kq (Ze (Zg (Zp rfl (Zb (kq (Ze (Ze (Zg (Zp rfl (Zb (kq (Yu (Qq (fun (x : Nat × Nat) u1 => match x with | ⟨i, k⟩ => (i ≤ F.kids.length ∧ k ≤ i ∧ findD F kd s = findK kd s (F.kids.drop i) k) ∧ G w6 u1) [(1, True, _), (2, True, _), (3, True, _), (6, True, _)] (fun (x : Nat × Nat) => match x with | ⟨i, k⟩ => [(8, True, .int .i64 k), (9, True, .int .i64 i)]) (fun (x : Nat × Nat) => match x with | ⟨i, k⟩ => F.kids.length - i) (0, 0) ⟨⟨Nat.zero_le _, Nat.le_refl _, rfl⟩, G.refl _⟩ (Za rfl (Za rfl (Za rfl (Za rfl (Za rfl (Za rfl (Zj _))))))) ?_)))))))))))))))
 rintro ⟨i, k⟩ u1 ⟨hI1, gl1⟩
 have g := g.trans gl1
 replace E := E.grow gl1
 obtain ⟨hi, hki, hF⟩ := hI1
 refine Ze (Ze (Zg (Zt J (Zx Zi J (Yg Zh J (E.g1.at_ J) (Qu Zf J (Zfa J J (Zb (kq (Yv J (fun h1 => ?_) (fun h1 => ?_)))))))))))
 ·replace h1 : i < F.kids.length := by simp only [decide_eq_true_eq] at h1; omega
  obtain ⟨b, o, rfl, hD, xs, hR, hX⟩ := hks (by omega)
  obtain ⟨p', c', hcell, hkid⟩ := Qta hR hX h1
  rw [List.drop_eq_getElem_cons h1, findK] at hF
  refine Yc (kq (Ze (Yu (Ze (Ze (Zg (Zx Zi J (Yg Zh J (E.g1.at_ J) (Zt J (Jta Zf J J (by omega) (Zx Yd J (Yg Zu J ((hcell.grow g).one (i := 0) J) (Zt J (Wja J J (Zb (kq (Yv J (fun h2 => ?_) (fun h2 => ?_))))))))))))))))))
  ·have hq : decide (F.kids[i].kind = kd) = false := by simpa using h2
   rw [hq, cond_false] at hF
   refine Vq J (kq (Zg (Zt J (Qv J J (by omega) (Zp J (Wh [(8, _, _), (9, _, _), (1, _, _), (2, _, _), (3, _, _), (6, _, _)] (Za J (Za J (Za J (Za J (Za J (Za J (Zj _))))))) (Zb (fun a ha => ?_))))))))
   exact ⟨(i + 1, k), ha, ⟨⟨h1, by omega, hF⟩, gl1⟩, by show _ - (i + 1) < _ - i; omega⟩
  have hq : decide (F.kids[i].kind = kd) = true := by simpa using h2
  rw [hq, cond_true] at hF
  refine Yc (kq (Ze (Ze (Zg (Zx Zi J (Yg Zh J (E.g1.at_ J) (Zt J (Jta Zf J J (by omega) (Zx Ym J (Yg Yr J ((hcell.grow g).one (i := 1) J) (Zt J (Wi J J (Zb (kq (Yv J (fun h3 => ?_) (fun h3 => ?_))))))))))))))))
  ·rw [h3, cond_true] at hF
   refine Ze (Zg (Zx Zi J (Yg Zh J (E.g1.at_ J) (Zt J (Jta Zf J J (by omega) (Yk Zc J J (hcell.grow g) (Zt J (Yt Zl J J J E.g0 ?_))))))))
   intro wS1 hgS1 _ BS
   replace E := E.s0 hgS1 BS
   have g := Zw g hgS1 (by omega)
   first | replace gl1 := Zw gl1 hgS1 (by omega) | clear gl1 | skip
   refine Zp J (Zb (kq (Zr (Wb (rs := [.cell 6 26, .tmp 7]) (vs := [_, _]) J J (Yy J Zc J (E.g0.row) (Wg J (Yf))) J ?_))))
   rw [hF]; exact ⟨⟨p', c', rfl, hkid.grow g⟩, g⟩
  rw [h3, cond_false] at hF
  refine Yc (kq (Zg (Zt J (Qv J J (by omega) (Zp J (Zb (kq (Zg (Zt J (Qv J J (by omega) (Zp J (Wh [(8, _, _), (9, _, _), (1, _, _), (2, _, _), (3, _, _), (6, _, _)] (Za J (Za J (Za J (Za J (Za J (Za J (Zj _))))))) (Zb (fun a ha => ?_))))))))))))))
  exact ⟨(i + 1, k + 1), ha, ⟨⟨h1, by omega, hF⟩, gl1⟩, by show _ - (i + 1) < _ - i; omega⟩
 replace h1 : i = F.kids.length := by simp only [decide_eq_false_iff_not] at h1; omega
 rw [List.drop_of_length_le (by omega), findK] at hF
 refine Vq J (kq (Ze (Zg (Uc Zm Wl pq0 J J (Yt Zl J J J E.g0 ?_)))))
 intro wS2 hgS2 _ BS
 replace E := E.s0 hgS2 BS
 have g := Zw g hgS2 (by omega)
 first | replace gl1 := Zw gl1 hgS2 (by omega) | clear gl1 | skip
 refine Zp J (Zb (kq (Zr (Wb (rs := [.cell 6 26, .tmp 7]) (vs := [_, _]) J J (Yy J Zc J (E.g0.row) (Wg J (Yf))) J ?_))))
 rw [hF]; exact ⟨⟨none, 0, rfl, Wza _ _⟩, g⟩
theorem Wtb {F : Nd} {n0 b : Nat} {S : CSt} {w : World} (t : Nd) (p : Option Addr) (c : Nat) (h : Chk F n0 b S w) : Ret PP Zyb #[.pointer (some ⟨b, 0, none⟩), ndV t (.slice p t.kids.length c)] w fun r w' => r = .tuple #[] ∧ Chk F n0 b (pointerS F t S) w' ∧ GT mutR n0 w w' := by
 obtain ⟨fv, sv, sn, h⟩ := h
 have hlt := h.lt
 have g := GT.refl mutR n0 w
 refine Yp (m := 25) Jfa J J [(0, True, _), (1, True, _)] (Za J (Za J (Zj _))) ?_
 refine Ze (Zg (Wq J (Zk J) J ?_))
 intro b3 w3 N3
 have l3 := Xm N3 g.size
 have g := gtg g N3.g
 have h := h.grow (N3.g)
 have E := (Wo _).new N3
 refine Zb (kq (Ze (Zg (Zx Yd J (Yg Zu J (E.g0.at_ J) (Xt J J (Zb (kq (Yv J (fun h1 => ?_) (fun h1 => ?_))))))))))
 ·(try simp only [Xq] at h1)
  refine Ze (Ud (rowR none) [3, 3, 3, 0, 3, 0, 1, 3, 3, 3, 1, 2, 3] [0, 1, 3, 7, 0, 16, 63, 127, 255, 255, 0, 1535, 4095] mix (by kernel_rfl) [0, 1, 2, 3, 4, 5, 6, 7, 8, 9, 10, 11, 12] J ?_)
  have g := gtd g
  replace E := E.dr
  have h := h.grow (G.drew _)
  refine Xc 0 J J (fun _ => Yl (Zk J)) (Xc 1 J J (fun _ => Jl (Zk J)) (Xc 2 J J (fun _ => Zv Vw (Zk J)) (Vk 3 J J (fun w1 hx => Xd Zc (Zk J) J (fun _ => (h.B.keep hx (by intro q; first | (injection q with q; omega) | cases q)).row.part 0 9)) (Xc 4 J J (fun _ => Zv Ym (Zk J)) (Vk 5 J J (fun w1 hx => Ye Yr (Zk J) (fun _ => (E.g0.keep hx (fun h => nomatch h)).at_ J)) (Xwa 6 10 J J ?_ ?_))))))
  ·refine Xg (L' := [7, 8, 9, 10, 11, 12]) [3, 3, 3, 0, 3, 0, 1, 3, 3, 3, 1, 2, 3] J J J ?_
   refine Ya J (Zo Qy Yo (aqc J (aqc J (aqc J aq0))) J) (Yca F fv _ _ 2 t.text h.kF h.hF) ?_
   rintro v16 w16 ⟨⟨p16, c16, rfl, hk16⟩, g16⟩
   refine ⟨fun _ => g16, ?_⟩
   have g := gtg g g16
   replace E := E.grow g16
   have h := h.grow (g16)
   refine Wa ((g16).only _) ?_
   refine Xc 7 J J (fun _ => Yl (Zk J)) (Xc 8 J J (fun _ => Vf (Zk J) J) (Xc 9 J J (fun _ => Vf (Zk J) J) (Xo 10 J J ?_)))
   refine Xg (L' := [11, 12]) [3, 3, 3, 0, 3, 0, 1, 3, 3, 3, 1, 2, 3] J J J ?_
   refine Yh J Zm J ?_
   intro b4 w4 N4
   have l4 := Xm N4 g.size
   have g := gtg g N4.g
   have h := h.grow (N4.g)
   replace E := E.new N4
   refine Wa ((N4.g).only _) ?_
   refine Xo 11 J J ?_
   refine Wt (L' := [12]) [3, 3, 3, 0, 3, 0, 1, 3, 3, 3, 1, 2, 3] J J J J ?_
   refine Yt Zl J J J E.g0 ?_
   intro wS1 hgS1 _ BS
   have C4 := E.g0
   replace E := E.s0 hgS1 BS
   have g := Zy g hgS1 (by omega)
   have h := h.keep hgS1 C4 rfl (by omega)
   refine Vm ?_
   refine Xc 12 J J (fun _ => Wy (Zk J)) (Uq [(0, _, _), (3, _, _), (5, _, _)] (Za J (Za J (Za J (Zj _)))) (Up (kq (Ze (Zg (Zt J (Zfa J J (Zb (kq (Yv J (fun h2 => ?_) (fun h2 => ?_)))))))))))
   ·(try simp only [Xq] at h2)
    refine Zg (Zt J (Zx Yw J (Yg Zu J (E.g1.at_ J) (Ya J (Zo Yz Yo (aqc J (aqc J (aqc J aq0))) J) (Vj t.pos 5 h.chk) ?_))))
    rintro v24 w24 ⟨rfl, h, g24⟩
    refine ⟨nw1, ?_⟩
    have g := g.trans g24
    replace E := E.gt g24 rfl
    refine Zb (Xra J ?_)
    refine ⟨rfl, ?_, g⟩
    unfold pointerS failU; simp only [h1, h2, cond_true, cond_false, Bool.not_true, Bool.not_false]; first | exact h | exact h.chk
   refine Yc (Xra J ?_)
   refine ⟨rfl, ?_, g⟩
   unfold pointerS failU; simp only [h1, h2, cond_true, cond_false, Bool.not_true, Bool.not_false]; first | exact h | exact h.chk
  ·refine Xg (L' := [6, 7, 8, 9, 11, 12]) [3, 3, 3, 0, 3, 0, 1, 3, 3, 3, 1, 2, 3] J J J ?_
   refine Yh J Zm J ?_
   intro b4 w4 N4
   have l4 := Xm N4 g.size
   have g := gtg g N4.g
   have h := h.grow (N4.g)
   replace E := E.new N4
   refine Wa ((N4.g).only _) ?_
   refine Xo 6 J J ?_
   refine Xg (L' := [7, 8, 9, 11, 12]) [3, 3, 3, 0, 3, 0, 1, 3, 3, 3, 1, 2, 3] J J J ?_
   refine Ya J (Zo Qy Yo (aqc J (aqc J (aqc J aq0))) J) (Yca F fv _ _ 2 t.text h.kF h.hF) ?_
   rintro v16 w16 ⟨⟨p16, c16, rfl, hk16⟩, g16⟩
   refine ⟨fun _ => g16, ?_⟩
   have g := gtg g g16
   replace E := E.grow g16
   have h := h.grow (g16)
   refine Wa ((g16).only _) ?_
   refine Xc 7 J J (fun _ => Yl (Zk J)) (Xc 8 J J (fun _ => Vf (Zk J) J) (Xc 9 J J (fun _ => Vf (Zk J) J) (Xo 11 J J ?_)))
   refine Wt (L' := [12]) [3, 3, 3, 0, 3, 0, 1, 3, 3, 3, 1, 2, 3] J J J J ?_
   refine Yt Zl J J J E.g0 ?_
   intro wS1 hgS1 _ BS
   have C4 := E.g0
   replace E := E.s0 hgS1 BS
   have g := Zy g hgS1 (by omega)
   have h := h.keep hgS1 C4 rfl (by omega)
   refine Vm ?_
   refine Xc 12 J J (fun _ => Wy (Zk J)) (Uq [(0, _, _), (3, _, _), (5, _, _)] (Za J (Za J (Za J (Zj _)))) (Up (kq (Ze (Zg (Zt J (Zfa J J (Zb (kq (Yv J (fun h2 => ?_) (fun h2 => ?_)))))))))))
   ·(try simp only [Xq] at h2)
    refine Zg (Zt J (Zx Yw J (Yg Zu J (E.g1.at_ J) (Ya J (Zo Yz Yo (aqc J (aqc J (aqc J aq0))) J) (Vj t.pos 5 h.chk) ?_))))
    rintro v24 w24 ⟨rfl, h, g24⟩
    refine ⟨nw1, ?_⟩
    have g := g.trans g24
    replace E := E.gt g24 rfl
    refine Zb (Xra J ?_)
    refine ⟨rfl, ?_, g⟩
    unfold pointerS failU; simp only [h1, h2, cond_true, cond_false, Bool.not_true, Bool.not_false]; first | exact h | exact h.chk
   refine Yc (Xra J ?_)
   refine ⟨rfl, ?_, g⟩
   unfold pointerS failU; simp only [h1, h2, cond_true, cond_false, Bool.not_true, Bool.not_false]; first | exact h | exact h.chk
 refine Yc (Xra J ?_)
 refine ⟨rfl, ?_, g⟩
 unfold pointerS failU; simp only [h1, cond_true, cond_false, Bool.not_true, Bool.not_false]; first | exact h | exact h.chk
theorem Zvc {F : Nd} {n0 b : Nat} {S : CSt} {w : World} (t : Nd) (p : Option Addr) (c : Nat) (h : Chk F n0 b S w) : Ret PP Xub #[.pointer (some ⟨b, 0, none⟩), ndV t (.slice p t.kids.length c)] w fun r w' => r = tyV (ofF t).1 ∧ Chk F n0 b (localS F t S) w' ∧ GT mutR n0 w w' := by
 have hlt := h.lt
 have g := GT.refl mutR n0 w
 refine Yp (m := 23) Yab J J [(0, True, _), (1, True, _)] (Za J (Za J (Zj _))) ?_
 refine Ze (Zg (Wq J (Zk J) J ?_))
 intro b3 w3 N3
 have l3 := Xm N3 g.size
 have g := gtg g N3.g
 have h := h.grow (N3.g)
 have E := (Wo _).new N3
 refine Yh J Yq J ?_
 intro b4 w4 N4
 have l4 := Xm N4 g.size
 have g := gtg g N4.g
 have h := h.grow (N4.g)
 replace E := E.new N4
 refine Zb (kq (Ze (Zg (Zt J (Yk Zc J J E.g1.row (Ya J (Zo Yga Yo (aqc J (aqc J aq0)) J) (Wtb t _ _ h) ?_))))))
 rintro v9 w9 ⟨rfl, h, g9⟩
 refine ⟨nw1, ?_⟩
 have g := g.trans g9
 replace E := E.gt g9 rfl
 refine Zb (kq (Ze (Zg (Yk Zc J J E.g1.row (Xk J (Zo Xfa Yo (aqc J aq0) J) (Yrb t _ _ _) (fun w12 g12 => ?_))))))
 have g := gtg g g12
 replace E := E.grow g12
 have h := h.grow (g12)
 refine Zt J (Qc J J (Qc J J (Yh J Yq J ?_)))
 intro b5 w5 N5
 have l5 := Xm N5 g.size
 have g := gtg g N5.g
 have h := h.grow (N5.g)
 replace E := E.new N5
 refine Yt Yn J J J E.g0 ?_
 intro wS1 hgS1 _ BS
 have C5 := E.g0
 replace E := E.s0 hgS1 BS
 have g := Zy g hgS1 (by omega)
 have h := h.keep hgS1 C5 rfl (by omega)
 refine Zp J (Zb (kq (Ze (Ze (Zg (Yk Zs J J E.g0.row (Xk J (Zo Xha Yo (aqc J aq0) J) (Uoa _ _) (fun w16 g16 => ?_))))))))
 have g := gtg g g16
 replace E := E.grow g16
 have h := h.grow (g16)
 refine Wia J (Zb (kq (Yv J (fun h1 => ?_) (fun h1 => ?_))))
 ·have hv : Qr (ofF t).1 = false := by simpa using h1
  refine Zg (Zt J (Zx Yw J (Yg Zu J (E.g2.at_ J) (Ya J (Zo Yz Yo (aqc J (aqc J (aqc J aq0))) J) (Vj t.pos 7 h) ?_))))
  rintro v21 w21 ⟨rfl, h, g21⟩
  refine ⟨nw1, ?_⟩
  have g := g.trans g21
  replace E := E.gt g21 rfl
  refine Zb (kq (Ze (Zg (Yk Zs J J E.g0.row (Yt Yn J J J E.g1 ?_)))))
  intro wS2 hgS2 _ BS
  have C4 := E.g1
  replace E := E.s1 hgS2 BS
  have g := Zy g hgS2 (by omega)
  have h := h.keep hgS2 C4 rfl (by omega)
  refine Zb (kq (Zr (Xj J (Yy J Zs J (E.g1.row) (Yf)) ?_)))
  refine ⟨rfl, ?_, g⟩
  unfold localS failU; rw [hv]; exact h
 have hv : Qr (ofF t).1 = true := by simpa using h1
 refine Yc (kq (Ze (Zg (Yk Zs J J E.g0.row (Yt Yn J J J E.g1 ?_)))))
 intro wS3 hgS3 _ BS
 have C4 := E.g1
 replace E := E.s1 hgS3 BS
 have g := Zy g hgS3 (by omega)
 have h := h.keep hgS3 C4 rfl (by omega)
 refine Zb (kq (Zr (Xj J (Yy J Zs J (E.g1.row) (Yf)) ?_)))
 refine ⟨rfl, ?_, g⟩
 unfold localS failU; rw [hv]; exact h
theorem Usd {F : Nd} {n0 b : Nat} {S : CSt} {w : World} (h : Chk F n0 b S w) (hs : S.scope ≤ 100000000) : Ret PP Vvb #[.pointer (some ⟨b, 0, none⟩)] w fun r w' => r = .tuple #[] ∧ Chk F n0 b (openS S) w' ∧ GT mutR n0 w w' := by
 obtain ⟨fv, sv, sn, h⟩ := h
 have g := GT.refl mutR n0 w
 refine Yp (m := 9) Xhb J J [(0, True, _)] (Za J (Zj _)) ?_
 refine Zg (Zt J (Ui J (Zx Vh J (Yg Zu J (h.B.at_ J) (Qv J J (by omega) (Ui J (Zx Vh J (Ww J Vb (Zk J) (Zk J) J J h.B J J ?_))))))))
 intro wA hgA hzA BA
 have g := Yja g hgA h.B rfl h.hb
 have h := h.set (S' := openS S) hgA BA rfl rfl
 refine Zb (Xra J ?_)
 exact ⟨rfl, h.chk, g⟩
theorem Yqa {F : Nd} {n0 b : Nat} {S : CSt} {w : World} (t : Nd) (p : Option Addr) (c : Nat) (k a : Int) (h : Chk F n0 b S w) : Ret PP Vsb #[.pointer (some ⟨b, 0, none⟩), ndV t (.slice p t.kids.length c), .int .i64 k, .int .i64 a] w fun r w' => r = .tuple #[] ∧ Chk F n0 b (wantS t k a S) w' ∧ GT mutR n0 w w' := by
 have hlt := h.lt
 have g := GT.refl mutR n0 w
 refine Yp (m := 16) Xfb J J [(0, True, _), (1, True, _), (2, True, _), (3, True, _)] (Za J (Za J (Za J (Za J (Zj _))))) ?_
 refine Ze (Zg (Wq J (Zk J) J ?_))
 intro b5 w5 N5
 have l5 := Xm N5 g.size
 have g := gtg g N5.g
 have h := h.grow (N5.g)
 have E := (Wo _).new N5
 refine Zb (kq (Ze (Zg (Zx Xa J (Zx Ws J (Yg Zu J (E.g0.at_ J) (Zt J (Wja J J (Zb (kq (Yv J (fun h1 => ?_) (fun h1 => ?_))))))))))))
 ·have hv : decide (t.ty.kind = k) = false := by simpa using h1
  refine Zg (Zt J (Zt J (Ya J (Zo Yz Yo (aqc J (aqc J (aqc J aq0))) J) (Vj a 7 h) ?_)))
  rintro v15 w15 ⟨rfl, h, g15⟩
  refine ⟨nw1, ?_⟩
  have g := g.trans g15
  replace E := E.gt g15 rfl
  refine Zb (Xra J ?_)
  refine ⟨rfl, ?_, g⟩
  unfold wantS failU; rw [hv]; exact h
 have hv : decide (t.ty.kind = k) = true := by simpa using h1
 refine Yc (Xra J ?_)
 refine ⟨rfl, ?_, g⟩
 unfold wantS failU; rw [hv]; exact h
theorem Ude {l : List Vr} {sc : Nat} (h : (decide ((l.length : Int) > 0) && decide (((lst l).scope : Int) = sc)) = true) : 0 < l.length ∧ dropV sc l = dropV sc l.dropLast := by
 simp only [Bool.and_eq_true, decide_eq_true_eq] at h
 rcases List.eq_nil_or_concat l with e | ⟨a, x, e⟩
 ·subst e; simp at h
 ·rw [List.concat_eq_append] at e
  subst e
  have hx : x.scope = sc := by have := h.2; simp [lst] at this; omega
  refine ⟨by simp, ?_⟩
  rw [List.dropLast_concat]
  unfold dropV
  rw [List.reverse_append, List.reverse_singleton, List.singleton_append, List.dropWhile_cons_of_pos (by simp [hx])]
theorem Uee {l : List Vr} {sc : Nat} (h : (decide ((l.length : Int) > 0) && decide (((lst l).scope : Int) = sc)) = false) : dropV sc l = l := by
 rcases List.eq_nil_or_concat l with e | ⟨a, x, e⟩
 ·subst e; rfl
 ·rw [List.concat_eq_append] at e
  subst e
  have hx : x.scope ≠ sc := by
   intro e
   rw [Bool.and_eq_false_iff] at h
   rcases h with h | h
   ·simp at h
   ·simp [lst, e] at h
  unfold dropV
  rw [List.reverse_append, List.reverse_singleton, List.singleton_append, List.dropWhile_cons_of_neg (by simp [hx]), List.reverse_cons, List.reverse_reverse]
theorem Jnf {l : List Vr} (h : 0 < l.length) : lst l = l[l.length - 1] := by
 rw [lst, List.getLast?_eq_getElem?, List.getElem?_eq_getElem (by omega)]; rfl
theorem Jqb {F : Nd} {n0 b : Nat} {S : CSt} {w : World} (h : Chk F n0 b S w) (hs : S.scope ≤ 100000000) (hs1 : 1 ≤ S.scope) (hv : S.vars.length ≤ 100000000) : Ret PP Vwb #[.pointer (some ⟨b, 0, none⟩)] w fun r w' => r = .tuple #[] ∧ Chk F n0 b (shutS S) w' ∧ GT mutR n0 w w' := by
 have g := GT.refl mutR n0 w
 refine Yp (m := 49) Xib J J [(0, True, _)] (Za J (Zj _)) ?_
 refine Ze (Yu (Qq (fun (l : List Vr) u1 => (Chk F n0 b { S with vars := l } u1 ∧ dropV S.scope S.vars = dropV S.scope l ∧ l.length ≤ 100000000) ∧ GT mutR n0 w u1) [(0, True, _)] (fun (l : List Vr) => []) (fun (l : List Vr) => l.length) (S.vars) ⟨⟨h, rfl, hv⟩, GT.refl _ _ _⟩ (Za J (Zj _)) ?_))
 rintro l u1 ⟨hI1, gl1⟩
 have g := g.trans gl1
 obtain ⟨⟨fv, sv, sn, h⟩, hd, hl⟩ := hI1
 have hs2 : ({ S with vars := l } : CSt).scope ≤ 100000000 := hs
 have hs3 : 1 ≤ ({ S with vars := l } : CSt).scope := hs1
 obtain ⟨p, c, rfl, hcap, hat⟩ := Wbd (l := l) h.ov
 refine Ze (Ze (Wr [3, 3, 3, 0, 3, 3, 3, 3, 3, 3, 0, 3, 3, 3, 0, 3, 3, 3, 3, 0, 3, 3, 3, 0, 3, 3] [true, true, true, true, true, true, true, true, true, true, true, true, true, true, true, true, true, true, true, true, true, true, true, true, true, true] [0, 1, 3, 7, 15, 31, 63, 127, 255, 511, 1023, 127, 2175, 6271, 14463, 30847, 63615, 131071, 262143, 524287, 127, 1048703, 3145855, 7340159, 16777215, 33554431] mix (by kernel_rfl) ?_))
 have g := gtd g
 have gl1 := gl1.trans (GT.of_g (G.drew _))
 have h := h.grow (G.drew _)
 refine Zt J (Ui J (Zx Xx J (Yg Wf J (h.B.at_ J) (Qu Wc J (Ved J J (Zt J (Zn J J J (fun _ => Yl (Zk J)) (Zn J J J (fun _ => Jl (Zq J id)) (Zn J J J (fun _ => Zv Xx (Zq J id)) (Yj J J J (Ye Wf (Zq J id) (fun _ => h.B.at_ J)) (Zn J J J (fun _ => Yl (Zk J)) (Zn J J J (fun _ => Jl (Zq J id)) (Zn J J J (fun _ => Zv Xx (Zq J id)) (Yj J J J (Ye Wf (Zq J id) (fun _ => h.B.at_ J)) (Zn J J J (fun _ => Zea Wc (Zq J id)) (?_))))))))))))))))
 refine Zn J J J (fun _ => Xxa (Zq J id) Xy (fun _ => by omega)) (Zn J J J (fun _ => Wj Wc (Zq J id) (Zq J id) (fun h6 => by have h6 := h6.2; simp only [decide_eq_true_eq] at h6; omega) (fun h6 => (hat 0 (by have h6 := h6.2; simp only [decide_eq_true_eq] at h6; omega)).1)) (Zn J J J (fun _ => Zv Yea (Zq J id)) (Yj J J J (Ye Zu (Zq J id) (fun h6 => by have hl0 : 0 < l.length := (by have h6 := h6.2; simp only [decide_eq_true_eq] at h6; omega); have e : ((l.length : Int) - 1).toNat = l.length - 1 := (by omega); rw [e]; exact (hat (l.length - 1) (by omega)).2.one (i := 5) (by rw [← Jnf hl0]; rfl))) (Zn J J J (fun _ => Yl (Zk J)) (Zn J J J (fun _ => Jl (Zq J id)) (Zn J J J (fun _ => Zv Vh (Zq J id)) (Yj J J J (Ye Zu (Zq J id) (fun _ => h.B.at_ J)) (Zn J J J (fun _ => Vt (Zq J id) (Zq J id)) (Yi J (fun _ => Zz (Zk J) (Zq J id)) (Zb (kq (Yv J (fun h1 => ?_) (fun h1 => ?_)))))))))))))
 ·obtain ⟨hl0, hdl⟩ := Ude h1
  refine Yc (kq (Yu (Wr [3, 3, 3, 3, 0, 3, 3, 3, 0, 3, 3, 3, 3, 3, 2] [true, true, true, true, true, true, true, true, true, true, true, true, true, true, true] [0, 0, 2, 6, 14, 0, 32, 96, 224, 480, 992, 2046, 4095, 8191, 16383] mix (by kernel_rfl) ?_)))
  have g := gtd g
  have gl1 := gl1.trans (GT.of_g (G.drew _))
  have h := h.grow (G.drew _)
  refine Zt J (Zt J (Ui J (Zx Xx J (Yg Wf J (h.B.at_ J) (Zt J (Ui J (Zx Xx J (Yg Wf J (h.B.at_ J) (Qu Wc J (Yi J (fun _ => Xxa (Zk J) Xy (fun _ => by omega)) (Yi J (fun _ => Vcd Wc (Zk J) (Zk J) (fun _ => by omega)) (Ui J (Zx Xx J (Ww J Qm (Zk J) (Zk J) J J h.B J J ?_))))))))))))))
  intro wA hgA hzA BA
  have e : ((l.length : Int) - 1).toNat = l.dropLast.length := by rw [List.length_dropLast]; omega
  rw [e] at BA
  have g := Yja g hgA h.B rfl h.hb
  have gl1 := Yja gl1 hgA h.B rfl h.hb
  have h := h.setv (S' := { S with vars := l.dropLast }) (Qfb _ _) (Zaf h.ov) hgA BA rfl
  refine Wh [(0, _, _)] (Za J (Zj _)) (Zb (fun a ha => ?_))
  exact ⟨l.dropLast, ha, ⟨⟨h.chk, hd.trans hdl, by simp; omega⟩, gl1⟩, by simp; omega⟩
 have hdl := Uee h1
 refine Vq J (kq (Zg (Zt J (Ui J (Zx Vh J (Yg Zu J (h.B.at_ J) (Yi J (fun _ => Xxa (Zk J) Xy (fun _ => by omega)) (Ui J (Zx Vh J (Ww J Vb (Zk J) (Zk J) J J h.B J J ?_))))))))))
 intro wC hgC hzC BC
 have e : (S.scope : Int) - 1 = ((S.scope - 1 : Nat) : Int) := by omega
 rw [e] at BC
 have g := Yja g hgC h.B rfl h.hb
 have h := h.set (S' := shutS S) hgC (by unfold shutS; rw [hd, hdl]; exact BC) (by show dropV _ _ = _; rw [hd, hdl]) rfl
 refine Zb (Xra J ?_)
 exact ⟨rfl, h.chk, g⟩
theorem Zue {l : List Vr} {k : Nat} (h : k < l.length) (s : List UInt8) : findV (l.take (k + 1)) s = bif decide (l[k].name = s) then some l[k] else findV (l.take k) s := by
 unfold findV
 rw [List.take_succ_eq_append_getElem h, List.reverse_append, List.reverse_singleton, List.singleton_append, List.find?_cons]
 cases decide (l[k].name = s) <;> rfl
theorem Zgf {l : List Vr} {k : Nat} (h : k < l.length) (p : Vr → Bool) : (l.take (k + 1)).any p = ((l.take k).any p || p l[k]) := by
 rw [List.take_succ_eq_append_getElem h, List.any_append]; simp
theorem Wfa {a e : Int} {S : CSt} (he : e ≠ 0) (p q : Bool) : failU (!(p || q)) a e S = (bif q then failS a e (failU (!p) a e S) else failU (!p) a e S) := by
 cases p <;> cases q <;> try rfl
 show failS a e S = failS a e (failS a e S)
 by_cases h : S.ee = 0
 ·have : failS a e S = { S with ea := a, ee := e } := by unfold failS; rw [Yfg h]; rfl
  rw [this]; unfold failS; rw [Yeg he]; rfl
 ·have : failS a e S = S := by unfold failS; rw [Yeg h]; rfl
  rw [this, this]
theorem Zhf {α : Type} {l xs : List α} {m i : Nat} (h : l.take m = xs) (hi : i < m) : l[i]? = xs[i]? := by
 rw [← h, List.getElem?_take, if_pos hi]
theorem Vkf {α : Type} {l : List α} {o : Nat} (h : o < l.length) (v : α) : l.set o v = l.take o ++ [v] ++ l.drop (o + [v].length) := by
 rw [List.set_eq_take_append_cons_drop, if_pos h]; simp
theorem Zve {w : World} {b b' : Nat} {e e' : TypeId} {l l' : List Value} (h : Blk w b e l) (h' : Blk w b' e' l') (he : Nat.beq e e' = false) : b ≠ b' := fun q => by
 subst q
 unfold Blk at h h'
 rw [h] at h'; injection h' with h'; injection h' with _ h'; subst h'; simp at he
structure FSh (F : Nd) : Prop where
 k6 : ∀ d ∈ F.kids, d.kind = 6 → 1 ≤ d.kids.length
 k4 : ∀ d ∈ F.kids, d.kind = 4 → 2 ≤ d.kids.length
 kp : ∀ d ∈ F.kids, d.kind = 4 → ∀ f ∈ (Zd d 0).kids, 1 ≤ f.kids.length
theorem Wta {kd : Int} {s : List UInt8} : ∀ (l : List Nd) (k : Nat), 0 ≤ (findK kd s l k).2 → (findK kd s l k).1 ∈ l ∧ (findK kd s l k).1.kind = kd
 | [], k, h => absurd h (show ¬ (0 : Int) ≤ -1 by decide)
 | d :: l, k, h => by
  rw [findK] at h ⊢
  cases h1 : decide (d.kind = kd)
  ·rw [h1, cond_false] at h
   have := Wta l k h
   exact ⟨List.mem_cons_of_mem _ this.1, this.2⟩
  ·rw [h1, cond_true] at h
   rw [cond_true]
   cases h2 : decide (d.text = s)
   ·rw [h2, cond_false] at h
    have := Wta l (k + 1) h
    exact ⟨List.mem_cons_of_mem _ this.1, this.2⟩
   ·exact ⟨List.mem_cons_self, of_decide_eq_true h1⟩
theorem FSh.l6 {F : Nd} (H : FSh F) {s : List UInt8} (h : 0 ≤ (findD F 6 s).2) : 0 < (findD F 6 s).1.kids.length := H.k6 _ (Wta _ _ h).1 (Wta _ _ h).2
theorem FSh.l4 {F : Nd} (H : FSh F) {s : List UInt8} (h : 0 ≤ (findD F 4 s).2) : 2 ≤ (findD F 4 s).1.kids.length := H.k4 _ (Wta _ _ h).1 (Wta _ _ h).2
theorem FSh.lp {F : Nd} (H : FSh F) {s : List UInt8} (h : 0 ≤ (findD F 4 s).2) : ∀ f ∈ (Zd (findD F 4 s).1 0).kids, 1 ≤ f.kids.length := H.kp _ (Wta _ _ h).1 (Wta _ _ h).2
def vrP (S : CSt) (name : List UInt8) (v : Vr) : Bool := decide (v.scope = S.scope) && decide (v.name = name)
theorem Wga {F : Nd} {n0 b : Nat} {S : CSt} {w : World} {N : Nat} (name : List UInt8) (y : Ty) (a : Int) (h : Chk F n0 b S w) (hb : Bd S N) (hN : N ≤ 1000000) : Ret PP Zzb #[.pointer (some ⟨b, 0, none⟩), Str name, tyV y, .int .i64 a] w fun r w' => r = .int .i64 (declN S : Nat) ∧ Chk F n0 b (declS name y a S) w' ∧ GT mutR n0 w w' := by
 have hlt := h.lt
 have hvl := hb.vl
 have hnl := hb.nl
 have hlv := hb.lv
 have hdn := Upd hb
 have g := GT.refl mutR n0 w
 refine Yp (m := 92) Jga J J [(0, True, _), (1, True, _), (2, True, _), (3, True, _)] (Za J (Za J (Za J (Za J (Zj _))))) ?_
 refine Ze (Zg (Wq J (Zk J) J ?_))
 intro b6 w6 N6
 have l6 := Xm N6 g.size
 have g := gtg g N6.g
 have h := h.grow (N6.g)
 have E := (Wo _).new N6
 refine Zp J (Zb (kq (Ze (Ze (Zg (Zp J (Zb (kq (Yu (Qq (fun (i : Nat) u1 => (i ≤ S.vars.length ∧ Chk F n0 b (failU (!(S.vars.take i).any (vrP S name)) a 6 S) u1) ∧ GT mutR n0 w6 u1) [(0, True, _), (1, True, _), (3, True, _), (6, True, _), (8, True, _)] (fun (i : Nat) => [(9, True, .int .i64 i)]) (fun (i : Nat) => S.vars.length - i) (0) ⟨⟨Nat.zero_le _, h⟩, GT.refl _ _ _⟩ (Za J (Za J (Za J (Za J (Za J (Za J (Zj _))))))) ?_))))))))))
 rintro i u1 ⟨hI1, gl1⟩
 have g := g.trans gl1
 replace E := E.gt gl1 rfl
 obtain ⟨hi, hC⟩ := hI1
 obtain ⟨T, hT⟩ : ∃ T, T = failU (!(S.vars.take i).any (vrP S name)) a 6 S := ⟨_, rfl⟩
 rw [← hT] at hC
 obtain ⟨q1, q2, q3, q4, q5, _⟩ := Vca (!(S.vars.take i).any (vrP S name)) a 6 S
 rw [← hT] at q1 q2 q3 q4 q5
 have hC0 := hC
 obtain ⟨fv, sv, sn, h⟩ := hC
 obtain ⟨pv, cv, rfl, hcap, hat⟩ := Wbd h.ov
 have q6 : T.vars.length ≤ N := by rw [q1]; exact hvl
 refine Ze (Ze (Zg (Zt J (Zt J (Ui J (Zx Xx J (Yg Wf J (h.B.at_ J) (Qu Wc J (Zfa J J (Zb (kq (Yv J (fun h1 => ?_) (fun h1 => ?_)))))))))))))
 ·replace h1 : i < T.vars.length := by simp only [decide_eq_true_eq] at h1; omega
  have hiS : i < S.vars.length := by rw [← q1]; exact h1
  have hst := Zgf hiS (vrP S name)
  have hvi : T.vars[i] = S.vars[i] := by simp only [q1]
  have hp : vrP S name S.vars[i] = (decide ((T.vars[i].scope : Int) = (T.scope : Nat)) && decide (T.vars[i].name = name)) := by rw [hvi, q2, vrP]; congr 1; rw [decide_eq_decide]; omega
  refine Yc (kq (Ze (Yu (Ze (Wr [3, 3, 3, 0, 3, 3, 3, 0, 3, 3, 3, 0, 3, 3, 3, 3, 3, 0, 3, 3, 3, 0, 3, 3, 3] [true, true, true, true, true, true, true, true, true, true, true, true, true, true, true, true, true, true, true, true, true, true, true, true, true] [0, 1, 3, 7, 0, 31, 63, 127, 0, 256, 768, 1792, 4095, 8191, 16383, 32767, 65535, 131071, 16383, 524287, 1048575, 2097151, 16383, 8388607, 16777215] mix (by kernel_rfl) ?_)))))
  have gl1 := gl1.trans (GT.of_g (G.drew _))
  replace E := E.dr
  have h := h.grow (G.drew _)
  refine Zt J (Ui J (Zx Xx J (Yg Wf J (h.B.at_ J) (Zt J (Yi J (fun _ => Wj Wc (Zk J) (Zk J) (fun _ => by omega) (fun _ => (hat i h1).1)) (Zx Yea J (Yg Zu J (((hat i h1).2.grow (G.drew _)).one (i := 5) J) (Zt J (Ui J (Zx Vh J (Yg Zu J (h.B.at_ J) (Xt J J (Zt J (Zn J J J (fun _ => Yl (Zk J)) (Zn J J J (fun _ => Jl (Zq J id)) (?_))))))))))))))))
  refine Zn J J J (fun _ => Zv Xx (Zq J id)) (Yj J J J (Ye Wf (Zq J id) (fun _ => h.B.at_ J)) (Zn J J J (fun _ => Yl (Zk J)) (Zn J J J (fun _ => Wj Wc (Zq J id) (Zq J id) (fun _ => by omega) (fun _ => (hat i h1).1)) (Zn J J J (fun _ => Zv Yda (Zq J id)) (Yj J J J (Ye Yr (Zq J id) (fun _ => ((hat i h1).2.grow (G.drew _)).one (i := 0) J)) (Zn J J J (fun _ => Yl (Zk J)) (Zn J J J (fun _ => Yya (Zq J id) (Zq J id)) (Yi J (fun _ => Zz (Zk J) (Zq J id)) (Zb (kq (Yv J (fun h2 => ?_) (fun h2 => ?_))))))))))))
  ·rw [h2] at hp
   refine Zg (Zt J (Zt J (Ya J (Zo Yz Yo (aqc J (aqc J (aqc J aq0))) J) (Vj a 6 h.chk) ?_)))
   rintro v47 w47 ⟨rfl, hC, g47⟩
   refine ⟨nw1, ?_⟩
   have gl1 := gl1.trans g47
   replace E := E.gt g47 rfl
   refine Zb (kq (Zg (Zt J (Qv J J (by omega) (Zp J (Wh [(9, _, _), (0, _, _), (1, _, _), (3, _, _), (6, _, _), (8, _, _)] (Za J (Za J (Za J (Za J (Za J (Za J (Zj _))))))) (Zb (fun a ha => ?_))))))))
   exact ⟨i + 1, ha, ⟨⟨hiS, by rw [hst, Wfa (by decide), hp, ← hT]; exact hC⟩, gl1⟩, by omega⟩
  rw [h2] at hp
  refine Yc (kq (Zg (Zt J (Qv J J (by omega) (Zp J (Wh [(9, _, _), (0, _, _), (1, _, _), (3, _, _), (6, _, _), (8, _, _)] (Za J (Za J (Za J (Za J (Za J (Za J (Zj _))))))) (Zb (fun a ha => ?_))))))))
  exact ⟨i + 1, ha, ⟨⟨hiS, by rw [hst, Wfa (by decide), hp, ← hT]; exact h.chk⟩, gl1⟩, by omega⟩
 replace h1 : i = S.vars.length := by rw [← q1]; simp only [decide_eq_false_iff_not] at h1; rw [← q1] at hi; omega
 subst h1
 rw [List.take_length] at hT
 have hlT : T.level < T.next.length := by rw [q3, q4]; exact hlv
 have hnT : T.next.length ≤ N + 1 := by rw [q4]; exact hnl
 obtain ⟨gs, cs, ls, rfl, hgs, hBs, hms, hls, htk, hre⟩ := Zqd h.on (by omega)
 have hel : ls[0 + T.level * 1]? = some (.int .i64 (declN S : Nat)) := by
  rw [Zhf htk (by omega), show 0 + T.level * 1 = T.level by omega, List.getElem?_map, q4, q3, List.getElem?_eq_getElem hlv, declN, List.getD_eq_getElem?_getD, List.getElem?_eq_getElem hlv]; rfl
 refine Vq J (kq (Ze (Wr [3, 3, 3, 0, 3, 3, 3, 0, 3, 0, 3] [true, true, true, true, true, true, true, true, true, true, true] [0, 1, 3, 7, 0, 16, 48, 112, 255, 511, 1023] mix (by kernel_rfl) ?_)))
 have g := gtd g
 replace E := E.dr
 have h := h.grow (G.drew _)
 have hBs := hBs.grow (G.drew _)
 refine Zt J (Ui J (Zx Vx J (Yg Qba J (h.B.at_ J) (Zt J (Ui J (Zx Wv J (Yg Zu J (h.B.at_ J) (Jta Ul J J (by omega) (Yg Zu J (hBs.at_ hel) (Zp J (Zb (kq (Ze (Wr [3, 3, 3, 0, 3, 3, 3, 0, 3, 0, 3, 3, 2] [true, true, true, true, true, true, true, true, true, true, true, true, true] [0, 1, 3, 7, 0, 16, 48, 112, 255, 511, 1023, 2047, 4095] mix (by kernel_rfl) ?_))))))))))))))
 have g := gtd g
 replace E := E.dr
 have h := h.grow (G.drew _)
 have hBs := hBs.grow (G.drew _)
 refine Zt J (Ui J (Zx Vx J (Yg Qba J (h.B.at_ J) (Zt J (Ui J (Zx Wv J (Yg Zu J (h.B.at_ J) (Jta Ul J J (by omega) (Yg Zu J (hBs.at_ hel) (Qv J J (by omega) (Jta Ul J J (by omega) (Ww J Vb (Zk J) (Zk J) J J hBs (Nat.ble_eq.mpr (by have := hls; have := hms; simp; omega)) J ?_))))))))))))
 intro wA hgA hzA BA
 have g := Yja g hgA hBs rfl hgs
 replace E := E.keepT hgA hBs rfl
 replace BA : Blk wA gs Wdb (ls.set (0 + T.level * 1) (Value.int .i64 ((declN S : Nat) + 1))) := by rw [Vkf (by omega)]; exact BA
 have hO := hre _ _ BA (by rw [List.length_set]; exact hls)
 have e5 : (ls.set (0 + T.level * 1) (Value.int .i64 ((declN S : Nat) + 1))).take (T.next.length * 1) = (T.next.set T.level (declN S + 1)).map fun (k : Nat) => Value.int .i64 (k : Int) := by
  rw [take_set _ _ _ _ (by omega), htk, List.map_set, show 0 + T.level * 1 = T.level by omega]; rfl
 have h := h.elt (S' := { T with next := T.next.set T.level (declN S + 1) }) hgA (by
  show wA.ownsRow n0 Wdb 1 _ (T.next.set T.level (declN S + 1)).length _
  rw [List.length_set]; exact e5 ▸ hO) rfl
 have q7 : ({ T with next := T.next.set T.level (declN S + 1) } : CSt).vars.length ≤ N := q6
 refine Zb (kq (Ze (Wr [3, 3, 3, 3, 0, 3, 0, 3, 3, 3, 3, 0, 3, 3, 3, 0, 3, 1, 2, 3, 3, 2] [true, true, true, true, true, true, true, true, true, true, true, true, true, true, true, true, true, true, true, true, true, true] [0, 0, 2, 6, 14, 0, 0, 0, 0, 256, 768, 1792, 0, 4096, 12288, 28672, 65504, 131040, 262142, 524287, 1048575, 2097151] mix (by kernel_rfl) ?_)))
 have g := gtd g
 replace E := E.dr
 have h := h.grow (G.drew _)
 refine Zt J (Zt J (Ui J (Zx Xx J (Yg Wf J (h.B.at_ J) (Zt J (Yk Zs J J E.g0.row (Zt J (Zt J (Ui J (Zx Wv J (Yg Zu J (h.B.at_ J) (Zt J (Ui J (Zx Vh J (Yg Zu J (h.B.at_ J) (?_))))))))))))))))
 refine Uc Qf Uga (pqc J (pqc J (pqc J (pqc J (pqc J pq0))))) J J (Yb _ J Wc Qf (pqc J pq0) J J ?_)
 intro b87 w87 N87
 have l87 := Xm N87 g.size
 have g := gtg g N87.g
 have h := h.grow (N87.g)
 replace E := E.new N87
 refine Ysa J Wc Qf J (by decide) (Zk J) h.ov (Zk J) J N87.blk.row J (by simp only [maxLen]; omega) (by omega) (by have := g.size; omega) ?_
 intro pw cw w88 hov hg88 hat88
 have g := Jne g h.ov rfl hg88
 have hl1 : (T.vars ++ [(⟨name, y, declN S, T.level, T.scope⟩ : Vr)]).length = T.vars.length + 1 := by simp
 have hf1 : (T.vars ++ [(⟨name, y, declN S, T.level, T.scope⟩ : Vr)]).flatMap vrCells = T.vars.flatMap vrCells ++ vrCells (⟨name, y, declN S, T.level, T.scope⟩ : Vr) := by simp
 refine Ui J (Zx Xx J (Ww J Qm (Zk J) (Zk J) J J (h.rowv hg88).1 J J ?_))
 intro wC hgC hzC BC
 have g := Yja g hgC (h.rowv hg88).1 rfl h.hb
 have h := h.setv (S' := { T with next := T.next.set T.level (declN S + 1), vars := T.vars ++ [(⟨name, y, declN S, T.level, T.scope⟩ : Vr)] }) hg88 (by
  show w88.ownsRow n0 Wx 6 (.slice pw (T.vars.length + 1) cw) (T.vars ++ [(⟨name, y, declN S, T.level, T.scope⟩ : Vr)]).length ((T.vars ++ [(⟨name, y, declN S, T.level, T.scope⟩ : Vr)]).flatMap vrCells)
  rw [hl1, hf1]; exact hov) hgC BC rfl
 refine Zb (kq (Ze (Zg (Zt J (Zp J (Zb (kq (Zr (Yx J J ?_)))))))))
 refine ⟨rfl, ?_, g⟩
 have e : declS name y a S = { T with next := T.next.set T.level (declN S + 1), vars := T.vars ++ [(⟨name, y, declN S, T.level, T.scope⟩ : Vr)] } := by
  unfold declS
  rw [show failU (!dupV S name) a 6 S = T from hT.symm]
  dsimp only
  rw [q1, q2, q3, q4]
 rw [e]; exact h.chk
theorem Qgb {F : Nd} {n0 b : Nat} {S : CSt} {w : World} {N : Nat} (H : FSh F) (t : Nd) (p : Option Addr) (c : Nat) (h : Chk F n0 b S w) (hb : Bd S N) (hN : N ≤ 1000000) : Ret PP Xkb #[.pointer (some ⟨b, 0, none⟩), ndV t (.slice p t.kids.length c)] w fun r w' => r = .tuple #[ndV (lookR F S t).1 (.slice none 0 0), .bool (lookR F S t).2] ∧ G w w' := by
 obtain ⟨fv, sv, sn, h⟩ := h
 have hlt := h.lt
 have hvl := hb.vl
 have hnl := hb.nl
 have hlv := hb.lv
 obtain ⟨pv, cv, rfl, hcap, hat⟩ := Wbd h.ov
 have g := G.refl w
 refine Yp (m := 112) Zab J J [(0, True, _), (1, True, _)] (Za J (Za J (Zj _))) ?_
 refine Ze (Zg (Wq J (Zk J) J ?_))
 intro b3 w3 N3
 have l3 := N3.ge g
 have g := g.trans N3.g
 have E := (Wo _).new N3
 refine Yh J Zm J ?_
 intro b4 w4 N4
 have l4 := N4.ge g
 have g := g.trans N4.g
 replace E := E.new N4
 refine Zp J (Zb (kq (Ze (Zg (Yk Zc J J E.g1.row (Ya J (Zo Vg Yo (aqc J aq0) J) (Uw t _ _ _) ?_))))))
 rintro v14 w14 ⟨rfl, g14⟩
 refine ⟨fun _ => g14, ?_⟩
 have g := g.trans g14
 replace E := E.grow g14
 refine Yh J Zm J ?_
 intro b6 w6 N6
 have l6 := N6.ge g
 have g := g.trans N6.g
 replace E := E.new N6
 refine Yt Zl J J J E.g0 ?_
 intro wS1 hgS1 _ BS
 replace E := E.s0 hgS1 BS
 have g := Zw g hgS1 (by omega)
 refine Zb (kq (Ze (Ze (Zg (Zt J (Ui J (Zx Xx J (Yg Wf J ((h.B.grow g).at_ J) (Qu Wc J (Yi J (fun _ => Xxa (Zk J) Xy (fun _ => by omega)) (Zp J (Zb (kq (Yu (Qq (fun (j : Nat) u1 => (j ≤ S.vars.length ∧ findV S.vars t.text = findV (S.vars.take j) t.text) ∧ G wS1 u1) [(0, True, _), (3, True, _), (4, True, _), (6, True, _)] (fun (j : Nat) => [(7, True, .int .i64 ((j : Int) - 1))]) (fun (j : Nat) => j) (S.vars.length) ⟨⟨Nat.le_refl _, by rw [List.take_length]⟩, G.refl _⟩ (Za J (Za J (Za J (Za J (Za J (Zj _)))))) ?_)))))))))))))))
 rintro j u1 ⟨hI1, gl1⟩
 have g := g.trans gl1
 replace E := E.grow gl1
 obtain ⟨hj, hF⟩ := hI1
 refine Ze (Ze (Zg (Zt J (Xsb J J (Zb (kq (Yv J (fun h1 => ?_) (fun h1 => ?_))))))))
 ·replace h1 : 1 ≤ j := by simp only [decide_eq_true_eq] at h1; omega
  obtain ⟨k, rfl⟩ : ∃ k, j = k + 1 := ⟨j - 1, by omega⟩
  have e : (((k + 1 : Nat) : Int) - 1).toNat = k := by omega
  have hk : k < S.vars.length := hj
  have hvk := hb.vs _ (List.getElem_mem hk)
  rw [Zue hk] at hF
  refine Yc (kq (Ze (Yu (Ze (Zg (Zt J (Ui J (Zx Xx J (Yg Wf J ((h.B.grow g).at_ J) (Zt J (Yi J (fun _ => Wj Wc (Zk J) (Zk J) (fun _ => by omega) (fun _ => (hat k hk).1)) (Yk Vwa J J (by rw [e]; exact (hat k hk).2.grow g) (Yh J Qf J ?_)))))))))))))
  intro b8 w8 N8
  have l8 := N8.ge g
  have l8_gl1 := N8.ge gl1
  have g := g.trans N8.g
  have gl1 := gl1.trans (N8.g)
  replace E := E.new N8
  refine Yt Ufa J J J E.g0 ?_
  intro wS2 hgS2 _ BS
  replace E := E.s0 hgS2 BS
  have g := Zw g hgS2 (by omega)
  first | replace gl1 := Zw gl1 hgS2 (by omega) | clear gl1 | skip
  refine Zb (kq (Ze (Zg (Zx Yda J (Yg Yr J (E.g0.at_ J) (Zx Ym J (Yg Yr J (E.g3.at_ J) (Wi J J (Zb (kq (Yv J (fun h2 => ?_) (fun h2 => ?_))))))))))))
  ·rw [h2, cond_true] at hF
   refine Ze (Ud (rowR (some b6)) [3, 0, 3, 3, 3, 0, 3, 0, 3, 3, 0, 3, 1, 3, 1, 3, 1, 3, 1] [0, 1, 0, 4, 12, 28, 0, 64, 252, 0, 512, 0, 2048, 6147, 14339, 31231, 63999, 131071, 262143] mix (by kernel_rfl) [0, 1, 2, 3, 4, 5, 6, 7, 8, 9, 10, 11, 12, 13, 14, 15, 16, 17, 18] J ?_)
   have g := gdr g
   have gl1 := gl1.trans (G.drew _)
   replace E := E.dr
   refine Xc 0 J J (fun _ => Zv Voa (Zk J)) (Vk 1 J J (fun w1 hx => Ye Zu (Zk J) (fun _ => (E.g0.keep hx (fun h => E.ne 0 1 J J J (Option.some.inj h))).at_ J)) (Xc 2 J J (fun _ => Yl (Zk J)) (Xc 3 J J (fun _ => Jl (Zk J)) (Xc 4 J J (fun _ => Zv Wv (Zk J)) (Vk 5 J J (fun w1 hx => Ye Zu (Zk J) (fun _ => ((h.B.grow g).keep hx (by intro q; first | (injection q with q; omega) | cases q)).at_ J)) (Xc 6 J J (fun _ => Zv Vpa (Zk J)) (Vk 7 J J (fun w1 hx => Ye Zu (Zk J) (fun _ => (E.g0.keep hx (fun h => E.ne 0 1 J J J (Option.some.inj h))).at_ J)) (Xc 8 J J (fun _ => Xxa (Zk J) (Zk J) (fun _ => by omega)) (Xc 9 J J (fun _ => Zv Vna (Zk J)) (Vk 10 J J (fun w1 hx => Xd Zs (Zk J) J (fun _ => (E.g0.keep hx (fun h => E.ne 0 1 J J J (Option.some.inj h))).row.part 1 2)) (Xc 11 J J (fun _ => Zv Uj (Zk J)) (Xo 12 J J ?_))))))))))))
   refine Xg (L' := [13, 14, 15, 16, 17, 18]) [3, 0, 3, 3, 3, 0, 3, 0, 3, 3, 0, 3, 2, 3, 2, 3, 2, 3, 2] J J J ?_
   refine Vz Vb J J J E.g1 ?_
   intro wS3 hgS3 _ BS
   replace E := E.s1 hgS3 BS
   have g := Zw g hgS3 (by omega)
   first | replace gl1 := Zw gl1 hgS3 (by omega) | clear gl1 | skip
   refine Wa (hgS3) ?_
   refine Xc 13 J J (fun _ => Zv Xl (Zk J)) (Xo 14 J J ?_)
   refine Xg (L' := [15, 16, 17, 18]) [3, 0, 3, 3, 3, 0, 3, 0, 3, 3, 0, 3, 2, 3, 2, 3, 2, 3, 2] J J J ?_
   refine Vz Vb J J J E.g1 ?_
   intro wS4 hgS4 _ BS
   replace E := E.s1 hgS4 BS
   have g := Zw g hgS4 (by omega)
   first | replace gl1 := Zw gl1 hgS4 (by omega) | clear gl1 | skip
   refine Wa (hgS4) ?_
   refine Xc 15 J J (fun _ => Zv Jlc (Zk J)) (Xo 16 J J ?_)
   refine Xg (L' := [17, 18]) [3, 0, 3, 3, 3, 0, 3, 0, 3, 3, 0, 3, 2, 3, 2, 3, 2, 3, 2] J J J ?_
   refine Vz Vb J J J E.g1 ?_
   intro wS5 hgS5 _ BS
   replace E := E.s1 hgS5 BS
   have g := Zw g hgS5 (by omega)
   first | replace gl1 := Zw gl1 hgS5 (by omega) | clear gl1 | skip
   refine Wa (hgS5) ?_
   refine Xc 17 J J (fun _ => Zv Xa (Zk J)) (Xo 18 J J ?_)
   refine Xg (L' := []) [3, 0, 3, 3, 3, 0, 3, 0, 3, 3, 0, 3, 2, 3, 2, 3, 2, 3, 2] J J J ?_
   refine Ww J Yn (Zk J) (Zk J) J J E.g1 J J ?_
   intro wS6 hgS6 _ BS
   replace E := E.s1 hgS6 BS
   have g := Zw g hgS6 (by omega)
   first | replace gl1 := Zw gl1 hgS6 (by omega) | clear gl1 | skip
   refine Wa (hgS6) ?_
   refine Uq [(0, _, _), (3, _, _), (4, _, _), (6, _, _), (7, _, _)] (Za J (Za J (Za J (Za J (Za J (Zj _)))))) (Up (kq (Ze (Zg (Yk Zc J J E.g1.row (Yt Zl J J J E.g2 ?_))))))
   intro wS7 hgS7 _ BS
   replace E := E.s2 hgS7 BS
   have g := Zw g hgS7 (by omega)
   first | replace gl1 := Zw gl1 hgS7 (by omega) | clear gl1 | skip
   refine Zp J (Zb (kq (Zr (Wb (rs := [.cell 4 26, .tmp 5]) (vs := [_, _]) J J (Yy J Zc J (E.g2.row) (Wg J (Yf))) J ?_))))
   refine ⟨?_, g⟩
   unfold lookR; rw [hF]; rfl
  rw [h2, cond_false] at hF
  refine Yc (kq (Zg (Zt J (Yi J (fun _ => Xxa (Zk J) Xy (fun _ => by omega)) (Zp J (Wh [(7, _, _), (0, _, _), (3, _, _), (4, _, _), (6, _, _)] (Za J (Za J (Za J (Za J (Za J (Zj _)))))) (Zb (fun a ha => ?_))))))))
  exact ⟨k, by rw [show ((k + 1 : Nat) : Int) - 1 - 1 = (k : Int) - 1 by omega] at ha; exact ha, ⟨⟨by omega, hF⟩, gl1⟩, by omega⟩
 replace h1 : j = 0 := by simp only [decide_eq_false_iff_not] at h1; omega
 subst h1
 replace hF : findV S.vars t.text = none := hF
 refine Vq J (kq (Ze (Ze (Ud (rowR none) [3, 3, 3, 0, 3, 0, 1, 3, 3, 3, 1, 2, 3] [0, 1, 3, 7, 0, 16, 63, 127, 255, 255, 0, 1535, 4095] mix (by kernel_rfl) [0, 1, 2, 3, 4, 5, 6, 7, 8, 9, 10, 11, 12] J ?_))))
 have g := gdr g
 have gl1 := gl1.trans (G.drew _)
 replace E := E.dr
 refine Xc 0 J J (fun _ => Yl (Zk J)) (Xc 1 J J (fun _ => Jl (Zk J)) (Xc 2 J J (fun _ => Zv Vw (Zk J)) (Vk 3 J J (fun w1 hx => Xd Zc (Zk J) J (fun _ => ((h.B.grow g).keep hx (by intro q; first | (injection q with q; omega) | cases q)).row.part 0 9)) (Xc 4 J J (fun _ => Zv Ym (Zk J)) (Vk 5 J J (fun w1 hx => Ye Yr (Zk J) (fun _ => (E.g2.keep hx (fun h => nomatch h)).at_ J)) (Xwa 6 10 J J ?_ ?_))))))
 ·refine Xg (L' := [7, 8, 9, 10, 11, 12]) [3, 3, 3, 0, 3, 0, 1, 3, 3, 3, 1, 2, 3] J J J ?_
  refine Ya J (Zo Qy Yo (aqc J (aqc J (aqc J aq0))) J) (Yca F fv _ _ 6 t.text (h.kF.grow g) h.hF) ?_
  rintro v60 w60 ⟨⟨p60, c60, rfl, hk60⟩, g60⟩
  refine ⟨fun _ => g60, ?_⟩
  have g := g.trans g60
  have gl1 := gl1.trans (g60)
  replace E := E.grow g60
  refine Wa ((g60).only _) ?_
  refine Xc 7 J J (fun _ => Yl (Zk J)) (Xc 8 J J (fun _ => Vf (Zk J) J) (Xc 9 J J (fun _ => Vf (Zk J) J) (Xo 10 J J ?_)))
  refine Xg (L' := [11, 12]) [3, 3, 3, 0, 3, 0, 1, 3, 3, 3, 1, 2, 3] J J J ?_
  refine Yh J Zm J ?_
  intro b9 w9 N9
  have l9 := N9.ge g
  have l9_gl1 := N9.ge gl1
  have g := g.trans N9.g
  have gl1 := gl1.trans (N9.g)
  have hk60 := hk60.grow (N9.g)
  replace E := E.new N9
  refine Wa ((N9.g).only _) ?_
  refine Xo 11 J J ?_
  refine Wt (L' := [12]) [3, 3, 3, 0, 3, 0, 1, 3, 3, 3, 1, 2, 3] J J J J ?_
  refine Yt Zl J J J E.g0 ?_
  intro wS8 hgS8 _ BS
  replace E := E.s0 hgS8 BS
  have g := Zw g hgS8 (by omega)
  first | replace gl1 := Zw gl1 hgS8 (by omega) | clear gl1 | skip
  have hk60 := hk60.keep hgS8 (fun k hk _ e => by injection e with e; omega)
  refine Vm ?_
  refine Xc 12 J J (fun _ => Wy (Zk J)) (Uq [(0, _, _), (3, _, _), (4, _, _), (6, _, _), (9, _, _), (10, _, _), (53, _, _), (54, _, _), (55, _, _), (56, _, _), (57, _, _), (58, _, _), (59, _, _), (60, _, _), (61, _, _), (62, _, _)] (Za J (Za J (Za J (Za J (Za J (Za J (Za J (Za J (Za J (Za J (Za J (Za J (Za J (Za J (Za J (Za J (Zj _))))))))))))))))) (Up (kq (Ze (Zg (Zt J (Xsb J J (Zb (kq (Yv J (fun h3 => ?_) (fun h3 => ?_)))))))))))
  ·replace h3 : 0 ≤ (findD F 6 t.text).2 := by simp only [decide_eq_true_eq] at h3; omega
   have hl6 := H.l6 h3
   refine Ze (Zg (Zt J (Zx Uj J (Vz Vb J J J E.g1 ?_))))
   intro wS9 hgS9 _ BS
   replace E := E.s1 hgS9 BS
   have g := Zw g hgS9 (by omega)
   first | replace gl1 := Zw gl1 hgS9 (by omega) | clear gl1 | skip
   have hk60 := hk60.keep hgS9 (fun k hk _ e => by injection e with e; omega)
   refine Zx Xl J (Vz Vb J J J E.g1 ?_)
   intro wS10 hgS10 _ BS
   replace E := E.s1 hgS10 BS
   have g := Zw g hgS10 (by omega)
   first | replace gl1 := Zw gl1 hgS10 (by omega) | clear gl1 | skip
   have hk60 := hk60.keep hgS10 (fun k hk _ e => by injection e with e; omega)
   refine Zb (kq (Ze (Zg (?_))))
   obtain ⟨e0, p1, c1, hcell, hkid⟩ := Xs hk60 (i := 0) hl6
   refine Zx Zi J (Yg Zh J (E.g0.at_ J) (Ve Zf J J (by omega) e0 (Yk Zc J J hcell (Xk J (Zo Xfa Yo (aqc J aq0) J) (Yrb (Zd (findD F 6 t.text).1 0) _ _ _) (fun w73 g73 => ?_)))))
   have g := g.trans g73
   replace E := E.grow g73
   refine Zt J (Qc J J (Qc J J (Zx Xa J (Ww J Yn (Zk J) (Zk J) J J E.g1 J J ?_))))
   intro wS11 hgS11 _ BS
   replace E := E.s1 hgS11 BS
   have g := Zw g hgS11 (by omega)
   first | replace gl1 := Zw gl1 hgS11 (by omega) | clear gl1 | skip
   refine Zb (kq (Ze (Zg (Yk Zc J J E.g1.row (Yt Zl J J J E.g2 ?_)))))
   intro wS12 hgS12 _ BS
   replace E := E.s2 hgS12 BS
   have g := Zw g hgS12 (by omega)
   first | replace gl1 := Zw gl1 hgS12 (by omega) | clear gl1 | skip
   refine Zp J (Zb (kq (Zr (Wb (rs := [.cell 4 26, .tmp 5]) (vs := [_, _]) J J (Yy J Zc J (E.g2.row) (Wg J (Yf))) J ?_))))
   refine ⟨?_, g⟩
   unfold lookR; rw [hF]; dsimp only; rw [Yfg h3]; rfl
  replace h3 : ¬ 0 ≤ (findD F 6 t.text).2 := by simp only [decide_eq_false_iff_not] at h3; omega
  refine Yc (kq (Ze (Ze (Ud (rowR none) [3, 3, 3, 0, 3, 0, 1, 3, 3, 3, 1, 2, 3] [0, 1, 3, 7, 0, 16, 63, 127, 255, 255, 0, 1535, 4095] mix (by kernel_rfl) [0, 1, 2, 3, 4, 5, 6, 7, 8, 9, 10, 11, 12] J ?_))))
  have g := gdr g
  have gl1 := gl1.trans (G.drew _)
  replace E := E.dr
  refine Xc 0 J J (fun _ => Yl (Zk J)) (Xc 1 J J (fun _ => Jl (Zk J)) (Xc 2 J J (fun _ => Zv Vw (Zk J)) (Vk 3 J J (fun w1 hx => Xd Zc (Zk J) J (fun _ => ((h.B.grow g).keep hx (by intro q; first | (injection q with q; omega) | cases q)).row.part 0 9)) (Xc 4 J J (fun _ => Zv Ym (Zk J)) (Vk 5 J J (fun w1 hx => Ye Yr (Zk J) (fun _ => (E.g3.keep hx (fun h => nomatch h)).at_ J)) (Xwa 6 10 J J ?_ ?_))))))
  ·refine Xg (L' := [7, 8, 9, 10, 11, 12]) [3, 3, 3, 0, 3, 0, 1, 3, 3, 3, 1, 2, 3] J J J ?_
   refine Ya J (Zo Qy Yo (aqc J (aqc J (aqc J aq0))) J) (Yca F fv _ _ 4 t.text (h.kF.grow g) h.hF) ?_
   rintro v85 w85 ⟨⟨p85, c85, rfl, hk85⟩, g85⟩
   refine ⟨fun _ => g85, ?_⟩
   have g := g.trans g85
   have gl1 := gl1.trans (g85)
   replace E := E.grow g85
   refine Wa ((g85).only _) ?_
   refine Xc 7 J J (fun _ => Yl (Zk J)) (Xc 8 J J (fun _ => Vf (Zk J) J) (Xc 9 J J (fun _ => Vf (Zk J) J) (Xo 10 J J ?_)))
   refine Xg (L' := [11, 12]) [3, 3, 3, 0, 3, 0, 1, 3, 3, 3, 1, 2, 3] J J J ?_
   refine Yh J Zm J ?_
   intro b11 w11 N11
   have l11 := N11.ge g
   have l11_gl1 := N11.ge gl1
   have g := g.trans N11.g
   have gl1 := gl1.trans (N11.g)
   have hk85 := hk85.grow (N11.g)
   replace E := E.new N11
   refine Wa ((N11.g).only _) ?_
   refine Xo 11 J J ?_
   refine Wt (L' := [12]) [3, 3, 3, 0, 3, 0, 1, 3, 3, 3, 1, 2, 3] J J J J ?_
   refine Yt Zl J J J E.g0 ?_
   intro wS13 hgS13 _ BS
   replace E := E.s0 hgS13 BS
   have g := Zw g hgS13 (by omega)
   first | replace gl1 := Zw gl1 hgS13 (by omega) | clear gl1 | skip
   have hk85 := hk85.keep hgS13 (fun k hk _ e => by injection e with e; omega)
   refine Vm ?_
   refine Xc 12 J J (fun _ => Wy (Zk J)) (Uq [(0, _, _), (3, _, _), (4, _, _), (6, _, _), (9, _, _), (10, _, _), (11, _, _), (12, _, _), (53, _, _), (54, _, _), (55, _, _), (56, _, _), (57, _, _), (58, _, _), (59, _, _), (60, _, _), (61, _, _), (62, _, _), (63, _, _), (64, _, _), (78, _, _), (79, _, _), (80, _, _), (81, _, _), (82, _, _), (83, _, _), (84, _, _), (85, _, _), (86, _, _), (87, _, _)] (Za J (Za J (Za J (Za J (Za J (Za J (Za J (Za J (Za J (Za J (Za J (Za J (Za J (Za J (Za J (Za J (Za J (Za J (Za J (Za J (Za J (Za J (Za J (Za J (Za J (Za J (Za J (Za J (Za J (Za J (Zj _))))))))))))))))))))))))))))))) (Up (kq (Ze (Zg (Zt J (Xsb J J (Zb (kq (Yv J (fun h4 => ?_) (fun h4 => ?_)))))))))))
   ·replace h4 : 0 ≤ (findD F 4 t.text).2 := by simp only [decide_eq_true_eq] at h4; omega
    have hl4 := H.l4 h4
    refine Ze (Zg (Zt J (Zx Uj J (Vz Vb J J J E.g2 ?_))))
    intro wS14 hgS14 _ BS
    replace E := E.s2 hgS14 BS
    have g := Zw g hgS14 (by omega)
    first | replace gl1 := Zw gl1 hgS14 (by omega) | clear gl1 | skip
    have hk85 := hk85.keep hgS14 (fun k hk _ e => by injection e with e; omega)
    refine Zx Xl J (Vz Vb J J J E.g2 ?_)
    intro wS15 hgS15 _ BS
    replace E := E.s2 hgS15 BS
    have g := Zw g hgS15 (by omega)
    first | replace gl1 := Zw gl1 hgS15 (by omega) | clear gl1 | skip
    have hk85 := hk85.keep hgS15 (fun k hk _ e => by injection e with e; omega)
    refine Zb (kq (Ze (Ze (Zg (?_)))))
    obtain ⟨e0, p1, c1, hcell, hkid⟩ := Xs hk85 (i := 0) (by omega)
    obtain ⟨e1, p2, c2, hcell1, hkid1⟩ := Xs hk85 (i := 1) (by omega)
    refine Zx Zi J (Yg Zh J (E.g0.at_ J) (Ve Zf J J (by omega) e0 (Zx Zi J (Yg Zh J (hcell.one (i := 4) J) (Qu Zf J (Xt J J (Zt J (Zn J J J (fun _ => Zv Zi (Zk J)) (Yj J J J (Ye Zh (Zq J id) (fun _ => E.g0.at_ J)) (Zn J J J (fun _ => Wj Zf (Zq J id) Xy (fun _ => by omega) (fun _ => e1)) (Zn J J J (fun _ => Zv Yd (Zq J id)) (Yj J J J (Ye Zu (Zq J id) (fun _ => hcell1.one (i := 0) J)) (Zn J J J (fun _ => Vt (Zq J id) Xy) (Yi J (fun _ => Zz (Zk J) (Zq J id)) (Zb (kq (?_)))))))))))))))))
    refine Yv J (fun h5 => ?_) (fun h5 => ?_)
    ·(try simp only [Xq] at h5)
     refine Zg (Uc Yq Xv (pqc J pq0) J J (Zx Xa J (Ww J Yn (Zk J) (Zk J) J J E.g2 J J ?_)))
     intro wS16 hgS16 _ BS
     replace E := E.s2 hgS16 BS
     have g := Zw g hgS16 (by omega)
     first | replace gl1 := Zw gl1 hgS16 (by omega) | clear gl1 | skip
     refine Zb (kq (Ze (Zg (Yk Zc J J E.g2.row (Yt Zl J J J E.g3 ?_)))))
     intro wS17 hgS17 _ BS
     replace E := E.s3 hgS17 BS
     have g := Zw g hgS17 (by omega)
     first | replace gl1 := Zw gl1 hgS17 (by omega) | clear gl1 | skip
     refine Zp J (Zb (kq (Zr (Wb (rs := [.cell 4 26, .tmp 5]) (vs := [_, _]) J J (Yy J Zc J (E.g3.row) (Wg J (Yf))) J ?_))))
     refine ⟨?_, g⟩
     unfold lookR; rw [hF]; dsimp only; rw [Yeg h3, Yfg h4, Zpb, h5]; rfl
    refine Yc (kq (Ze (Zg (Yk Zc J J E.g2.row (Yt Zl J J J E.g3 ?_)))))
    intro wS18 hgS18 _ BS
    replace E := E.s3 hgS18 BS
    have g := Zw g hgS18 (by omega)
    first | replace gl1 := Zw gl1 hgS18 (by omega) | clear gl1 | skip
    refine Zp J (Zb (kq (Zr (Wb (rs := [.cell 4 26, .tmp 5]) (vs := [_, _]) J J (Yy J Zc J (E.g3.row) (Wg J (Yf))) J ?_))))
    refine ⟨?_, g⟩
    unfold lookR; rw [hF]; dsimp only; rw [Yeg h3, Yfg h4, Zpb, h5]; rfl
   replace h4 : ¬ 0 ≤ (findD F 4 t.text).2 := by simp only [decide_eq_false_iff_not] at h4; omega
   refine Yc (kq (Ze (Zg (Yk Zc J J E.g2.row (Yt Zl J J J E.g3 ?_)))))
   intro wS19 hgS19 _ BS
   replace E := E.s3 hgS19 BS
   have g := Zw g hgS19 (by omega)
   first | replace gl1 := Zw gl1 hgS19 (by omega) | clear gl1 | skip
   refine Zp J (Zb (kq (Zr (Wb (rs := [.cell 4 26, .tmp 5]) (vs := [_, _]) J J (Yy J Zc J (E.g3.row) (Wg J (Yf))) J ?_))))
   refine ⟨?_, g⟩
   unfold lookR; rw [hF]; dsimp only; rw [Yeg h3, Yeg h4]; rfl
  ·refine Xg (L' := [6, 7, 8, 9, 11, 12]) [3, 3, 3, 0, 3, 0, 1, 3, 3, 3, 1, 2, 3] J J J ?_
   refine Yh J Zm J ?_
   intro b11 w11 N11
   have l11 := N11.ge g
   have l11_gl1 := N11.ge gl1
   have g := g.trans N11.g
   have gl1 := gl1.trans (N11.g)
   replace E := E.new N11
   refine Wa ((N11.g).only _) ?_
   refine Xo 6 J J ?_
   refine Xg (L' := [7, 8, 9, 11, 12]) [3, 3, 3, 0, 3, 0, 1, 3, 3, 3, 1, 2, 3] J J J ?_
   refine Ya J (Zo Qy Yo (aqc J (aqc J (aqc J aq0))) J) (Yca F fv _ _ 4 t.text (h.kF.grow g) h.hF) ?_
   rintro v85 w85 ⟨⟨p85, c85, rfl, hk85⟩, g85⟩
   refine ⟨fun _ => g85, ?_⟩
   have g := g.trans g85
   have gl1 := gl1.trans (g85)
   replace E := E.grow g85
   refine Wa ((g85).only _) ?_
   refine Xc 7 J J (fun _ => Yl (Zk J)) (Xc 8 J J (fun _ => Vf (Zk J) J) (Xc 9 J J (fun _ => Vf (Zk J) J) (Xo 11 J J ?_)))
   refine Wt (L' := [12]) [3, 3, 3, 0, 3, 0, 1, 3, 3, 3, 1, 2, 3] J J J J ?_
   refine Yt Zl J J J E.g0 ?_
   intro wS13 hgS13 _ BS
   replace E := E.s0 hgS13 BS
   have g := Zw g hgS13 (by omega)
   first | replace gl1 := Zw gl1 hgS13 (by omega) | clear gl1 | skip
   have hk85 := hk85.keep hgS13 (fun k hk _ e => by injection e with e; omega)
   refine Vm ?_
   refine Xc 12 J J (fun _ => Wy (Zk J)) (Uq [(0, _, _), (3, _, _), (4, _, _), (6, _, _), (9, _, _), (10, _, _), (11, _, _), (12, _, _), (53, _, _), (54, _, _), (55, _, _), (56, _, _), (57, _, _), (58, _, _), (59, _, _), (60, _, _), (61, _, _), (62, _, _), (63, _, _), (64, _, _), (78, _, _), (79, _, _), (80, _, _), (81, _, _), (82, _, _), (83, _, _), (84, _, _), (85, _, _), (86, _, _), (87, _, _)] (Za J (Za J (Za J (Za J (Za J (Za J (Za J (Za J (Za J (Za J (Za J (Za J (Za J (Za J (Za J (Za J (Za J (Za J (Za J (Za J (Za J (Za J (Za J (Za J (Za J (Za J (Za J (Za J (Za J (Za J (Zj _))))))))))))))))))))))))))))))) (Up (kq (Ze (Zg (Zt J (Xsb J J (Zb (kq (Yv J (fun h4 => ?_) (fun h4 => ?_)))))))))))
   ·replace h4 : 0 ≤ (findD F 4 t.text).2 := by simp only [decide_eq_true_eq] at h4; omega
    have hl4 := H.l4 h4
    refine Ze (Zg (Zt J (Zx Uj J (Vz Vb J J J E.g2 ?_))))
    intro wS14 hgS14 _ BS
    replace E := E.s2 hgS14 BS
    have g := Zw g hgS14 (by omega)
    first | replace gl1 := Zw gl1 hgS14 (by omega) | clear gl1 | skip
    have hk85 := hk85.keep hgS14 (fun k hk _ e => by injection e with e; omega)
    refine Zx Xl J (Vz Vb J J J E.g2 ?_)
    intro wS15 hgS15 _ BS
    replace E := E.s2 hgS15 BS
    have g := Zw g hgS15 (by omega)
    first | replace gl1 := Zw gl1 hgS15 (by omega) | clear gl1 | skip
    have hk85 := hk85.keep hgS15 (fun k hk _ e => by injection e with e; omega)
    refine Zb (kq (Ze (Ze (Zg (?_)))))
    obtain ⟨e0, p1, c1, hcell, hkid⟩ := Xs hk85 (i := 0) (by omega)
    obtain ⟨e1, p2, c2, hcell1, hkid1⟩ := Xs hk85 (i := 1) (by omega)
    refine Zx Zi J (Yg Zh J (E.g0.at_ J) (Ve Zf J J (by omega) e0 (Zx Zi J (Yg Zh J (hcell.one (i := 4) J) (Qu Zf J (Xt J J (Zt J (Zn J J J (fun _ => Zv Zi (Zk J)) (Yj J J J (Ye Zh (Zq J id) (fun _ => E.g0.at_ J)) (Zn J J J (fun _ => Wj Zf (Zq J id) Xy (fun _ => by omega) (fun _ => e1)) (Zn J J J (fun _ => Zv Yd (Zq J id)) (Yj J J J (Ye Zu (Zq J id) (fun _ => hcell1.one (i := 0) J)) (Zn J J J (fun _ => Vt (Zq J id) Xy) (Yi J (fun _ => Zz (Zk J) (Zq J id)) (Zb (kq (?_)))))))))))))))))
    refine Yv J (fun h5 => ?_) (fun h5 => ?_)
    ·(try simp only [Xq] at h5)
     refine Zg (Uc Yq Xv (pqc J pq0) J J (Zx Xa J (Ww J Yn (Zk J) (Zk J) J J E.g2 J J ?_)))
     intro wS16 hgS16 _ BS
     replace E := E.s2 hgS16 BS
     have g := Zw g hgS16 (by omega)
     first | replace gl1 := Zw gl1 hgS16 (by omega) | clear gl1 | skip
     refine Zb (kq (Ze (Zg (Yk Zc J J E.g2.row (Yt Zl J J J E.g3 ?_)))))
     intro wS17 hgS17 _ BS
     replace E := E.s3 hgS17 BS
     have g := Zw g hgS17 (by omega)
     first | replace gl1 := Zw gl1 hgS17 (by omega) | clear gl1 | skip
     refine Zp J (Zb (kq (Zr (Wb (rs := [.cell 4 26, .tmp 5]) (vs := [_, _]) J J (Yy J Zc J (E.g3.row) (Wg J (Yf))) J ?_))))
     refine ⟨?_, g⟩
     unfold lookR; rw [hF]; dsimp only; rw [Yeg h3, Yfg h4, Zpb, h5]; rfl
    refine Yc (kq (Ze (Zg (Yk Zc J J E.g2.row (Yt Zl J J J E.g3 ?_)))))
    intro wS18 hgS18 _ BS
    replace E := E.s3 hgS18 BS
    have g := Zw g hgS18 (by omega)
    first | replace gl1 := Zw gl1 hgS18 (by omega) | clear gl1 | skip
    refine Zp J (Zb (kq (Zr (Wb (rs := [.cell 4 26, .tmp 5]) (vs := [_, _]) J J (Yy J Zc J (E.g3.row) (Wg J (Yf))) J ?_))))
    refine ⟨?_, g⟩
    unfold lookR; rw [hF]; dsimp only; rw [Yeg h3, Yfg h4, Zpb, h5]; rfl
   replace h4 : ¬ 0 ≤ (findD F 4 t.text).2 := by simp only [decide_eq_false_iff_not] at h4; omega
   refine Yc (kq (Ze (Zg (Yk Zc J J E.g2.row (Yt Zl J J J E.g3 ?_)))))
   intro wS19 hgS19 _ BS
   replace E := E.s3 hgS19 BS
   have g := Zw g hgS19 (by omega)
   first | replace gl1 := Zw gl1 hgS19 (by omega) | clear gl1 | skip
   refine Zp J (Zb (kq (Zr (Wb (rs := [.cell 4 26, .tmp 5]) (vs := [_, _]) J J (Yy J Zc J (E.g3.row) (Wg J (Yf))) J ?_))))
   refine ⟨?_, g⟩
   unfold lookR; rw [hF]; dsimp only; rw [Yeg h3, Yeg h4]; rfl
 ·refine Xg (L' := [6, 7, 8, 9, 11, 12]) [3, 3, 3, 0, 3, 0, 1, 3, 3, 3, 1, 2, 3] J J J ?_
  refine Yh J Zm J ?_
  intro b9 w9 N9
  have l9 := N9.ge g
  have l9_gl1 := N9.ge gl1
  have g := g.trans N9.g
  have gl1 := gl1.trans (N9.g)
  replace E := E.new N9
  refine Wa ((N9.g).only _) ?_
  refine Xo 6 J J ?_
  refine Xg (L' := [7, 8, 9, 11, 12]) [3, 3, 3, 0, 3, 0, 1, 3, 3, 3, 1, 2, 3] J J J ?_
  refine Ya J (Zo Qy Yo (aqc J (aqc J (aqc J aq0))) J) (Yca F fv _ _ 6 t.text (h.kF.grow g) h.hF) ?_
  rintro v60 w60 ⟨⟨p60, c60, rfl, hk60⟩, g60⟩
  refine ⟨fun _ => g60, ?_⟩
  have g := g.trans g60
  have gl1 := gl1.trans (g60)
  replace E := E.grow g60
  refine Wa ((g60).only _) ?_
  refine Xc 7 J J (fun _ => Yl (Zk J)) (Xc 8 J J (fun _ => Vf (Zk J) J) (Xc 9 J J (fun _ => Vf (Zk J) J) (Xo 11 J J ?_)))
  refine Wt (L' := [12]) [3, 3, 3, 0, 3, 0, 1, 3, 3, 3, 1, 2, 3] J J J J ?_
  refine Yt Zl J J J E.g0 ?_
  intro wS8 hgS8 _ BS
  replace E := E.s0 hgS8 BS
  have g := Zw g hgS8 (by omega)
  first | replace gl1 := Zw gl1 hgS8 (by omega) | clear gl1 | skip
  have hk60 := hk60.keep hgS8 (fun k hk _ e => by injection e with e; omega)
  refine Vm ?_
  refine Xc 12 J J (fun _ => Wy (Zk J)) (Uq [(0, _, _), (3, _, _), (4, _, _), (6, _, _), (9, _, _), (10, _, _), (53, _, _), (54, _, _), (55, _, _), (56, _, _), (57, _, _), (58, _, _), (59, _, _), (60, _, _), (61, _, _), (62, _, _)] (Za J (Za J (Za J (Za J (Za J (Za J (Za J (Za J (Za J (Za J (Za J (Za J (Za J (Za J (Za J (Za J (Zj _))))))))))))))))) (Up (kq (Ze (Zg (Zt J (Xsb J J (Zb (kq (Yv J (fun h3 => ?_) (fun h3 => ?_)))))))))))
  ·replace h3 : 0 ≤ (findD F 6 t.text).2 := by simp only [decide_eq_true_eq] at h3; omega
   have hl6 := H.l6 h3
   refine Ze (Zg (Zt J (Zx Uj J (Vz Vb J J J E.g1 ?_))))
   intro wS9 hgS9 _ BS
   replace E := E.s1 hgS9 BS
   have g := Zw g hgS9 (by omega)
   first | replace gl1 := Zw gl1 hgS9 (by omega) | clear gl1 | skip
   have hk60 := hk60.keep hgS9 (fun k hk _ e => by injection e with e; omega)
   refine Zx Xl J (Vz Vb J J J E.g1 ?_)
   intro wS10 hgS10 _ BS
   replace E := E.s1 hgS10 BS
   have g := Zw g hgS10 (by omega)
   first | replace gl1 := Zw gl1 hgS10 (by omega) | clear gl1 | skip
   have hk60 := hk60.keep hgS10 (fun k hk _ e => by injection e with e; omega)
   refine Zb (kq (Ze (Zg (?_))))
   obtain ⟨e0, p1, c1, hcell, hkid⟩ := Xs hk60 (i := 0) hl6
   refine Zx Zi J (Yg Zh J (E.g0.at_ J) (Ve Zf J J (by omega) e0 (Yk Zc J J hcell (Xk J (Zo Xfa Yo (aqc J aq0) J) (Yrb (Zd (findD F 6 t.text).1 0) _ _ _) (fun w73 g73 => ?_)))))
   have g := g.trans g73
   replace E := E.grow g73
   refine Zt J (Qc J J (Qc J J (Zx Xa J (Ww J Yn (Zk J) (Zk J) J J E.g1 J J ?_))))
   intro wS11 hgS11 _ BS
   replace E := E.s1 hgS11 BS
   have g := Zw g hgS11 (by omega)
   first | replace gl1 := Zw gl1 hgS11 (by omega) | clear gl1 | skip
   refine Zb (kq (Ze (Zg (Yk Zc J J E.g1.row (Yt Zl J J J E.g2 ?_)))))
   intro wS12 hgS12 _ BS
   replace E := E.s2 hgS12 BS
   have g := Zw g hgS12 (by omega)
   first | replace gl1 := Zw gl1 hgS12 (by omega) | clear gl1 | skip
   refine Zp J (Zb (kq (Zr (Wb (rs := [.cell 4 26, .tmp 5]) (vs := [_, _]) J J (Yy J Zc J (E.g2.row) (Wg J (Yf))) J ?_))))
   refine ⟨?_, g⟩
   unfold lookR; rw [hF]; dsimp only; rw [Yfg h3]; rfl
  replace h3 : ¬ 0 ≤ (findD F 6 t.text).2 := by simp only [decide_eq_false_iff_not] at h3; omega
  refine Yc (kq (Ze (Ze (Ud (rowR none) [3, 3, 3, 0, 3, 0, 1, 3, 3, 3, 1, 2, 3] [0, 1, 3, 7, 0, 16, 63, 127, 255, 255, 0, 1535, 4095] mix (by kernel_rfl) [0, 1, 2, 3, 4, 5, 6, 7, 8, 9, 10, 11, 12] J ?_))))
  have g := gdr g
  have gl1 := gl1.trans (G.drew _)
  replace E := E.dr
  refine Xc 0 J J (fun _ => Yl (Zk J)) (Xc 1 J J (fun _ => Jl (Zk J)) (Xc 2 J J (fun _ => Zv Vw (Zk J)) (Vk 3 J J (fun w1 hx => Xd Zc (Zk J) J (fun _ => ((h.B.grow g).keep hx (by intro q; first | (injection q with q; omega) | cases q)).row.part 0 9)) (Xc 4 J J (fun _ => Zv Ym (Zk J)) (Vk 5 J J (fun w1 hx => Ye Yr (Zk J) (fun _ => (E.g3.keep hx (fun h => nomatch h)).at_ J)) (Xwa 6 10 J J ?_ ?_))))))
  ·refine Xg (L' := [7, 8, 9, 10, 11, 12]) [3, 3, 3, 0, 3, 0, 1, 3, 3, 3, 1, 2, 3] J J J ?_
   refine Ya J (Zo Qy Yo (aqc J (aqc J (aqc J aq0))) J) (Yca F fv _ _ 4 t.text (h.kF.grow g) h.hF) ?_
   rintro v85 w85 ⟨⟨p85, c85, rfl, hk85⟩, g85⟩
   refine ⟨fun _ => g85, ?_⟩
   have g := g.trans g85
   have gl1 := gl1.trans (g85)
   replace E := E.grow g85
   refine Wa ((g85).only _) ?_
   refine Xc 7 J J (fun _ => Yl (Zk J)) (Xc 8 J J (fun _ => Vf (Zk J) J) (Xc 9 J J (fun _ => Vf (Zk J) J) (Xo 10 J J ?_)))
   refine Xg (L' := [11, 12]) [3, 3, 3, 0, 3, 0, 1, 3, 3, 3, 1, 2, 3] J J J ?_
   refine Yh J Zm J ?_
   intro b11 w11 N11
   have l11 := N11.ge g
   have l11_gl1 := N11.ge gl1
   have g := g.trans N11.g
   have gl1 := gl1.trans (N11.g)
   have hk85 := hk85.grow (N11.g)
   replace E := E.new N11
   refine Wa ((N11.g).only _) ?_
   refine Xo 11 J J ?_
   refine Wt (L' := [12]) [3, 3, 3, 0, 3, 0, 1, 3, 3, 3, 1, 2, 3] J J J J ?_
   refine Yt Zl J J J E.g0 ?_
   intro wS13 hgS13 _ BS
   replace E := E.s0 hgS13 BS
   have g := Zw g hgS13 (by omega)
   first | replace gl1 := Zw gl1 hgS13 (by omega) | clear gl1 | skip
   have hk85 := hk85.keep hgS13 (fun k hk _ e => by injection e with e; omega)
   refine Vm ?_
   refine Xc 12 J J (fun _ => Wy (Zk J)) (Uq [(0, _, _), (3, _, _), (4, _, _), (6, _, _), (9, _, _), (10, _, _), (11, _, _), (12, _, _), (53, _, _), (54, _, _), (55, _, _), (56, _, _), (57, _, _), (58, _, _), (59, _, _), (60, _, _), (61, _, _), (62, _, _), (63, _, _), (64, _, _), (78, _, _), (79, _, _), (80, _, _), (81, _, _), (82, _, _), (83, _, _), (84, _, _), (85, _, _), (86, _, _), (87, _, _)] (Za J (Za J (Za J (Za J (Za J (Za J (Za J (Za J (Za J (Za J (Za J (Za J (Za J (Za J (Za J (Za J (Za J (Za J (Za J (Za J (Za J (Za J (Za J (Za J (Za J (Za J (Za J (Za J (Za J (Za J (Zj _))))))))))))))))))))))))))))))) (Up (kq (Ze (Zg (Zt J (Xsb J J (Zb (kq (Yv J (fun h4 => ?_) (fun h4 => ?_)))))))))))
   ·replace h4 : 0 ≤ (findD F 4 t.text).2 := by simp only [decide_eq_true_eq] at h4; omega
    have hl4 := H.l4 h4
    refine Ze (Zg (Zt J (Zx Uj J (Vz Vb J J J E.g2 ?_))))
    intro wS14 hgS14 _ BS
    replace E := E.s2 hgS14 BS
    have g := Zw g hgS14 (by omega)
    first | replace gl1 := Zw gl1 hgS14 (by omega) | clear gl1 | skip
    have hk85 := hk85.keep hgS14 (fun k hk _ e => by injection e with e; omega)
    refine Zx Xl J (Vz Vb J J J E.g2 ?_)
    intro wS15 hgS15 _ BS
    replace E := E.s2 hgS15 BS
    have g := Zw g hgS15 (by omega)
    first | replace gl1 := Zw gl1 hgS15 (by omega) | clear gl1 | skip
    have hk85 := hk85.keep hgS15 (fun k hk _ e => by injection e with e; omega)
    refine Zb (kq (Ze (Ze (Zg (?_)))))
    obtain ⟨e0, p1, c1, hcell, hkid⟩ := Xs hk85 (i := 0) (by omega)
    obtain ⟨e1, p2, c2, hcell1, hkid1⟩ := Xs hk85 (i := 1) (by omega)
    refine Zx Zi J (Yg Zh J (E.g0.at_ J) (Ve Zf J J (by omega) e0 (Zx Zi J (Yg Zh J (hcell.one (i := 4) J) (Qu Zf J (Xt J J (Zt J (Zn J J J (fun _ => Zv Zi (Zk J)) (Yj J J J (Ye Zh (Zq J id) (fun _ => E.g0.at_ J)) (Zn J J J (fun _ => Wj Zf (Zq J id) Xy (fun _ => by omega) (fun _ => e1)) (Zn J J J (fun _ => Zv Yd (Zq J id)) (Yj J J J (Ye Zu (Zq J id) (fun _ => hcell1.one (i := 0) J)) (Zn J J J (fun _ => Vt (Zq J id) Xy) (Yi J (fun _ => Zz (Zk J) (Zq J id)) (Zb (kq (?_)))))))))))))))))
    refine Yv J (fun h5 => ?_) (fun h5 => ?_)
    ·(try simp only [Xq] at h5)
     refine Zg (Uc Yq Xv (pqc J pq0) J J (Zx Xa J (Ww J Yn (Zk J) (Zk J) J J E.g2 J J ?_)))
     intro wS16 hgS16 _ BS
     replace E := E.s2 hgS16 BS
     have g := Zw g hgS16 (by omega)
     first | replace gl1 := Zw gl1 hgS16 (by omega) | clear gl1 | skip
     refine Zb (kq (Ze (Zg (Yk Zc J J E.g2.row (Yt Zl J J J E.g3 ?_)))))
     intro wS17 hgS17 _ BS
     replace E := E.s3 hgS17 BS
     have g := Zw g hgS17 (by omega)
     first | replace gl1 := Zw gl1 hgS17 (by omega) | clear gl1 | skip
     refine Zp J (Zb (kq (Zr (Wb (rs := [.cell 4 26, .tmp 5]) (vs := [_, _]) J J (Yy J Zc J (E.g3.row) (Wg J (Yf))) J ?_))))
     refine ⟨?_, g⟩
     unfold lookR; rw [hF]; dsimp only; rw [Yeg h3, Yfg h4, Zpb, h5]; rfl
    refine Yc (kq (Ze (Zg (Yk Zc J J E.g2.row (Yt Zl J J J E.g3 ?_)))))
    intro wS18 hgS18 _ BS
    replace E := E.s3 hgS18 BS
    have g := Zw g hgS18 (by omega)
    first | replace gl1 := Zw gl1 hgS18 (by omega) | clear gl1 | skip
    refine Zp J (Zb (kq (Zr (Wb (rs := [.cell 4 26, .tmp 5]) (vs := [_, _]) J J (Yy J Zc J (E.g3.row) (Wg J (Yf))) J ?_))))
    refine ⟨?_, g⟩
    unfold lookR; rw [hF]; dsimp only; rw [Yeg h3, Yfg h4, Zpb, h5]; rfl
   replace h4 : ¬ 0 ≤ (findD F 4 t.text).2 := by simp only [decide_eq_false_iff_not] at h4; omega
   refine Yc (kq (Ze (Zg (Yk Zc J J E.g2.row (Yt Zl J J J E.g3 ?_)))))
   intro wS19 hgS19 _ BS
   replace E := E.s3 hgS19 BS
   have g := Zw g hgS19 (by omega)
   first | replace gl1 := Zw gl1 hgS19 (by omega) | clear gl1 | skip
   refine Zp J (Zb (kq (Zr (Wb (rs := [.cell 4 26, .tmp 5]) (vs := [_, _]) J J (Yy J Zc J (E.g3.row) (Wg J (Yf))) J ?_))))
   refine ⟨?_, g⟩
   unfold lookR; rw [hF]; dsimp only; rw [Yeg h3, Yeg h4]; rfl
  ·refine Xg (L' := [6, 7, 8, 9, 11, 12]) [3, 3, 3, 0, 3, 0, 1, 3, 3, 3, 1, 2, 3] J J J ?_
   refine Yh J Zm J ?_
   intro b11 w11 N11
   have l11 := N11.ge g
   have l11_gl1 := N11.ge gl1
   have g := g.trans N11.g
   have gl1 := gl1.trans (N11.g)
   replace E := E.new N11
   refine Wa ((N11.g).only _) ?_
   refine Xo 6 J J ?_
   refine Xg (L' := [7, 8, 9, 11, 12]) [3, 3, 3, 0, 3, 0, 1, 3, 3, 3, 1, 2, 3] J J J ?_
   refine Ya J (Zo Qy Yo (aqc J (aqc J (aqc J aq0))) J) (Yca F fv _ _ 4 t.text (h.kF.grow g) h.hF) ?_
   rintro v85 w85 ⟨⟨p85, c85, rfl, hk85⟩, g85⟩
   refine ⟨fun _ => g85, ?_⟩
   have g := g.trans g85
   have gl1 := gl1.trans (g85)
   replace E := E.grow g85
   refine Wa ((g85).only _) ?_
   refine Xc 7 J J (fun _ => Yl (Zk J)) (Xc 8 J J (fun _ => Vf (Zk J) J) (Xc 9 J J (fun _ => Vf (Zk J) J) (Xo 11 J J ?_)))
   refine Wt (L' := [12]) [3, 3, 3, 0, 3, 0, 1, 3, 3, 3, 1, 2, 3] J J J J ?_
   refine Yt Zl J J J E.g0 ?_
   intro wS13 hgS13 _ BS
   replace E := E.s0 hgS13 BS
   have g := Zw g hgS13 (by omega)
   first | replace gl1 := Zw gl1 hgS13 (by omega) | clear gl1 | skip
   have hk85 := hk85.keep hgS13 (fun k hk _ e => by injection e with e; omega)
   refine Vm ?_
   refine Xc 12 J J (fun _ => Wy (Zk J)) (Uq [(0, _, _), (3, _, _), (4, _, _), (6, _, _), (9, _, _), (10, _, _), (11, _, _), (12, _, _), (53, _, _), (54, _, _), (55, _, _), (56, _, _), (57, _, _), (58, _, _), (59, _, _), (60, _, _), (61, _, _), (62, _, _), (63, _, _), (64, _, _), (78, _, _), (79, _, _), (80, _, _), (81, _, _), (82, _, _), (83, _, _), (84, _, _), (85, _, _), (86, _, _), (87, _, _)] (Za J (Za J (Za J (Za J (Za J (Za J (Za J (Za J (Za J (Za J (Za J (Za J (Za J (Za J (Za J (Za J (Za J (Za J (Za J (Za J (Za J (Za J (Za J (Za J (Za J (Za J (Za J (Za J (Za J (Za J (Zj _))))))))))))))))))))))))))))))) (Up (kq (Ze (Zg (Zt J (Xsb J J (Zb (kq (Yv J (fun h4 => ?_) (fun h4 => ?_)))))))))))
   ·replace h4 : 0 ≤ (findD F 4 t.text).2 := by simp only [decide_eq_true_eq] at h4; omega
    have hl4 := H.l4 h4
    refine Ze (Zg (Zt J (Zx Uj J (Vz Vb J J J E.g2 ?_))))
    intro wS14 hgS14 _ BS
    replace E := E.s2 hgS14 BS
    have g := Zw g hgS14 (by omega)
    first | replace gl1 := Zw gl1 hgS14 (by omega) | clear gl1 | skip
    have hk85 := hk85.keep hgS14 (fun k hk _ e => by injection e with e; omega)
    refine Zx Xl J (Vz Vb J J J E.g2 ?_)
    intro wS15 hgS15 _ BS
    replace E := E.s2 hgS15 BS
    have g := Zw g hgS15 (by omega)
    first | replace gl1 := Zw gl1 hgS15 (by omega) | clear gl1 | skip
    have hk85 := hk85.keep hgS15 (fun k hk _ e => by injection e with e; omega)
    refine Zb (kq (Ze (Ze (Zg (?_)))))
    obtain ⟨e0, p1, c1, hcell, hkid⟩ := Xs hk85 (i := 0) (by omega)
    obtain ⟨e1, p2, c2, hcell1, hkid1⟩ := Xs hk85 (i := 1) (by omega)
    refine Zx Zi J (Yg Zh J (E.g0.at_ J) (Ve Zf J J (by omega) e0 (Zx Zi J (Yg Zh J (hcell.one (i := 4) J) (Qu Zf J (Xt J J (Zt J (Zn J J J (fun _ => Zv Zi (Zk J)) (Yj J J J (Ye Zh (Zq J id) (fun _ => E.g0.at_ J)) (Zn J J J (fun _ => Wj Zf (Zq J id) Xy (fun _ => by omega) (fun _ => e1)) (Zn J J J (fun _ => Zv Yd (Zq J id)) (Yj J J J (Ye Zu (Zq J id) (fun _ => hcell1.one (i := 0) J)) (Zn J J J (fun _ => Vt (Zq J id) Xy) (Yi J (fun _ => Zz (Zk J) (Zq J id)) (Zb (kq (?_)))))))))))))))))
    refine Yv J (fun h5 => ?_) (fun h5 => ?_)
    ·(try simp only [Xq] at h5)
     refine Zg (Uc Yq Xv (pqc J pq0) J J (Zx Xa J (Ww J Yn (Zk J) (Zk J) J J E.g2 J J ?_)))
     intro wS16 hgS16 _ BS
     replace E := E.s2 hgS16 BS
     have g := Zw g hgS16 (by omega)
     first | replace gl1 := Zw gl1 hgS16 (by omega) | clear gl1 | skip
     refine Zb (kq (Ze (Zg (Yk Zc J J E.g2.row (Yt Zl J J J E.g3 ?_)))))
     intro wS17 hgS17 _ BS
     replace E := E.s3 hgS17 BS
     have g := Zw g hgS17 (by omega)
     first | replace gl1 := Zw gl1 hgS17 (by omega) | clear gl1 | skip
     refine Zp J (Zb (kq (Zr (Wb (rs := [.cell 4 26, .tmp 5]) (vs := [_, _]) J J (Yy J Zc J (E.g3.row) (Wg J (Yf))) J ?_))))
     refine ⟨?_, g⟩
     unfold lookR; rw [hF]; dsimp only; rw [Yeg h3, Yfg h4, Zpb, h5]; rfl
    refine Yc (kq (Ze (Zg (Yk Zc J J E.g2.row (Yt Zl J J J E.g3 ?_)))))
    intro wS18 hgS18 _ BS
    replace E := E.s3 hgS18 BS
    have g := Zw g hgS18 (by omega)
    first | replace gl1 := Zw gl1 hgS18 (by omega) | clear gl1 | skip
    refine Zp J (Zb (kq (Zr (Wb (rs := [.cell 4 26, .tmp 5]) (vs := [_, _]) J J (Yy J Zc J (E.g3.row) (Wg J (Yf))) J ?_))))
    refine ⟨?_, g⟩
    unfold lookR; rw [hF]; dsimp only; rw [Yeg h3, Yfg h4, Zpb, h5]; rfl
   replace h4 : ¬ 0 ≤ (findD F 4 t.text).2 := by simp only [decide_eq_false_iff_not] at h4; omega
   refine Yc (kq (Ze (Zg (Yk Zc J J E.g2.row (Yt Zl J J J E.g3 ?_)))))
   intro wS19 hgS19 _ BS
   replace E := E.s3 hgS19 BS
   have g := Zw g hgS19 (by omega)
   first | replace gl1 := Zw gl1 hgS19 (by omega) | clear gl1 | skip
   refine Zp J (Zb (kq (Zr (Wb (rs := [.cell 4 26, .tmp 5]) (vs := [_, _]) J J (Yy J Zc J (E.g3.row) (Wg J (Yf))) J ?_))))
   refine ⟨?_, g⟩
   unfold lookR; rw [hF]; dsimp only; rw [Yeg h3, Yeg h4]; rfl
theorem Wdd {s : List UInt8} (h : nameB s = true) : s ≠ [] := by
 intro e; subst e; revert h; decide
theorem Qh {t : Nd} {f : Nd → Bool} (h : t.kids.all f = true) {i : Nat} (hi : i < t.kids.length) : f (Zd t i) = true := by
 rw [Wm hi]; exact List.all_eq_true.1 h _ (List.getElem_mem hi)
theorem Jof {s : List UInt8} (h : anyS binOps s = true) : s ≠ [] := by
 intro e; subst e; revert h; decide
theorem Uia {t : Nd} (h : noneB t = true) : t.kind = 9 ∧ t.text = [] ∧ t.kids.length = 0 := by
 unfold noneB at h
 simp only [Bool.and_eq_true, decide_eq_true_eq] at h
 exact ⟨h.1.1, h.1.2, by simpa [lenK] using h.2⟩
theorem Wed {t : Nd} {k : Int} (h : kindB t k = true) : t.kind = k ∧ exprB t = true := by
 unfold kindB at h
 simp only [Bool.and_eq_true, decide_eq_true_eq] at h
 exact h
theorem Xza {t : Nd} (h : blockB t = true) : t.kind = 10 := of_decide_eq_true (Bool.and_eq_true_iff.1 h).1
theorem sh28 {t : Nd} (h : t.kind = 28) (hx : exprB t = true) : t.text ≠ [] ∧ t.kids.length = 1 ∧ exprB (Zd t 0) = true := by
 rw [← Zja] at hx; unfold Jb at hx; rw [h] at hx
 have hx : ((nameB t.text && lenK t 1) && exprB (Zd t 0)) = true := hx
 simp only [Bool.and_eq_true, Bool.or_eq_true, decide_eq_true_eq] at hx
 exact ⟨Wdd hx.1.1, by (have hz := hx.1.2; first | (unfold lenK at hz; simp at hz; omega) | (simp at hz; omega)), hx.2⟩
theorem sh29 {t : Nd} (h : t.kind = 29) (hx : exprB t = true) : t.kids.length = 2 ∧ exprB (Zd t 0) = true ∧ exprB (Zd t 1) = true := by
 rw [← Zja] at hx; unfold Jb at hx; rw [h] at hx
 have hx : ((plainB t && lenK t 2) && t.kids.all exprB) = true := hx
 simp only [Bool.and_eq_true, Bool.or_eq_true, decide_eq_true_eq] at hx
 exact ⟨by (have hz := hx.1.2; first | (unfold lenK at hz; simp at hz; omega) | (simp at hz; omega)), Qh hx.2 (by (have hz := hx.1.2; first | (unfold lenK at hz; simp at hz; omega) | (simp at hz; omega))), Qh hx.2 (by (have hz := hx.1.2; first | (unfold lenK at hz; simp at hz; omega) | (simp at hz; omega)))⟩
theorem sh30 {t : Nd} (h : t.kind = 30) (hx : exprB t = true) : 1 ≤ t.kids.length ∧ t.kids.all exprB = true := by
 rw [← Zja] at hx; unfold Jb at hx; rw [h] at hx
 have hx : ((plainB t && decide (1 ≤ (t.kids.length : Int))) && t.kids.all exprB) = true := hx
 simp only [Bool.and_eq_true, Bool.or_eq_true, decide_eq_true_eq] at hx
 exact ⟨by have := hx.1.2; omega, hx.2⟩
theorem sh31 {t : Nd} (h : t.kind = 31) (hx : exprB t = true) : t.text ≠ [] ∧ t.kids.length = 1 ∧ exprB (Zd t 0) = true := by
 rw [← Zja] at hx; unfold Jb at hx; rw [h] at hx
 have hx : (((decide (t.text = [45]) || decide (t.text = [33])) && lenK t 1) && exprB (Zd t 0)) = true := hx
 simp only [Bool.and_eq_true, Bool.or_eq_true, decide_eq_true_eq] at hx
 exact ⟨by rcases hx.1.1 with e | e <;> rw [e] <;> simp, by (have hz := hx.1.2; first | (unfold lenK at hz; simp at hz; omega) | (simp at hz; omega)), hx.2⟩
theorem sh32 {t : Nd} (h : t.kind = 32) (hx : exprB t = true) : t.text ≠ [] ∧ t.kids.length = 2 ∧ exprB (Zd t 0) = true ∧ exprB (Zd t 1) = true := by
 rw [← Zja] at hx; unfold Jb at hx; rw [h] at hx
 have hx : ((anyS binOps t.text && lenK t 2) && t.kids.all exprB) = true := hx
 simp only [Bool.and_eq_true, Bool.or_eq_true, decide_eq_true_eq] at hx
 exact ⟨Jof hx.1.1, by (have hz := hx.1.2; first | (unfold lenK at hz; simp at hz; omega) | (simp at hz; omega)), Qh hx.2 (by (have hz := hx.1.2; first | (unfold lenK at hz; simp at hz; omega) | (simp at hz; omega))), Qh hx.2 (by (have hz := hx.1.2; first | (unfold lenK at hz; simp at hz; omega) | (simp at hz; omega)))⟩
theorem sh33 {t : Nd} (h : t.kind = 33) (hx : exprB t = true) : t.kids.length = 1 ∧ exprB (Zd t 0) = true := by
 rw [← Zja] at hx; unfold Jb at hx; rw [h] at hx
 have hx : ((plainB t && lenK t 1) && exprB (Zd t 0)) = true := hx
 simp only [Bool.and_eq_true, Bool.or_eq_true, decide_eq_true_eq] at hx
 exact ⟨by (have hz := hx.1.2; first | (unfold lenK at hz; simp at hz; omega) | (simp at hz; omega)), hx.2⟩
theorem sh35 {t : Nd} (h : t.kind = 35) (hx : exprB t = true) : t.kids.length = 1 ∧ exprB (Zd t 0) = true := by
 rw [← Zja] at hx; unfold Jb at hx; rw [h] at hx
 have hx : ((plainB t && lenK t 1) && exprB (Zd t 0)) = true := hx
 simp only [Bool.and_eq_true, Bool.or_eq_true, decide_eq_true_eq] at hx
 exact ⟨by (have hz := hx.1.2; first | (unfold lenK at hz; simp at hz; omega) | (simp at hz; omega)), hx.2⟩
theorem sh36 {t : Nd} (h : t.kind = 36) (hx : exprB t = true) : t.kids.length = 1 ∧ exprB (Zd t 0) = true := by
 rw [← Zja] at hx; unfold Jb at hx; rw [h] at hx
 have hx : ((plainB t && lenK t 1) && exprB (Zd t 0)) = true := hx
 simp only [Bool.and_eq_true, Bool.or_eq_true, decide_eq_true_eq] at hx
 exact ⟨by (have hz := hx.1.2; first | (unfold lenK at hz; simp at hz; omega) | (simp at hz; omega)), hx.2⟩
theorem sh37 {t : Nd} (h : t.kind = 37) (hx : exprB t = true) : t.kids.length = 1 ∧ exprB (Zd t 0) = true := by
 rw [← Zja] at hx; unfold Jb at hx; rw [h] at hx
 have hx : ((plainB t && lenK t 1) && exprB (Zd t 0)) = true := hx
 simp only [Bool.and_eq_true, Bool.or_eq_true, decide_eq_true_eq] at hx
 exact ⟨by (have hz := hx.1.2; first | (unfold lenK at hz; simp at hz; omega) | (simp at hz; omega)), hx.2⟩
theorem sh38 {t : Nd} (h : t.kind = 38) (hx : exprB t = true) : t.kids.length = 1 ∧ blockB (Zd t 0) = true := by
 rw [← Zja] at hx; unfold Jb at hx; rw [h] at hx
 have hx : ((plainB t && lenK t 1) && blockB (Zd t 0)) = true := hx
 simp only [Bool.and_eq_true, Bool.or_eq_true, decide_eq_true_eq] at hx
 exact ⟨by (have hz := hx.1.2; first | (unfold lenK at hz; simp at hz; omega) | (simp at hz; omega)), hx.2⟩
theorem sh11 {t : Nd} (h : t.kind = 11) (hx : stmtB t = true) : t.text ≠ [] ∧ t.kids.length = 1 ∧ exprB (Zd t 0) = true := by
 rw [← Jh] at hx; unfold refStmt at hx; rw [h] at hx
 have hx : ((nameB t.text && lenK t 1) && exprB (Zd t 0)) = true := hx
 simp only [Bool.and_eq_true, Bool.or_eq_true, decide_eq_true_eq] at hx
 exact ⟨Wdd hx.1.1, by (have hz := hx.1.2; first | (unfold lenK at hz; simp at hz; omega) | (simp at hz; omega)), hx.2⟩
theorem sh12 {t : Nd} (h : t.kind = 12) (hx : stmtB t = true) : t.kids.length = 2 ∧ exprB (Zd t 0) = true ∧ exprB (Zd t 1) = true := by
 rw [← Jh] at hx; unfold refStmt at hx; rw [h] at hx
 have hx : ((plainB t && lenK t 2) && t.kids.all exprB) = true := hx
 simp only [Bool.and_eq_true, Bool.or_eq_true, decide_eq_true_eq] at hx
 exact ⟨by (have hz := hx.1.2; first | (unfold lenK at hz; simp at hz; omega) | (simp at hz; omega)), Qh hx.2 (by (have hz := hx.1.2; first | (unfold lenK at hz; simp at hz; omega) | (simp at hz; omega))), Qh hx.2 (by (have hz := hx.1.2; first | (unfold lenK at hz; simp at hz; omega) | (simp at hz; omega)))⟩
theorem sh16 {t : Nd} (h : t.kind = 16) (hx : stmtB t = true) : t.kids.length = 2 ∧ exprB (Zd t 0) = true ∧ exprB (Zd t 1) = true := by
 rw [← Jh] at hx; unfold refStmt at hx; rw [h] at hx
 have hx : ((plainB t && lenK t 2) && t.kids.all exprB) = true := hx
 simp only [Bool.and_eq_true, Bool.or_eq_true, decide_eq_true_eq] at hx
 exact ⟨by (have hz := hx.1.2; first | (unfold lenK at hz; simp at hz; omega) | (simp at hz; omega)), Qh hx.2 (by (have hz := hx.1.2; first | (unfold lenK at hz; simp at hz; omega) | (simp at hz; omega))), Qh hx.2 (by (have hz := hx.1.2; first | (unfold lenK at hz; simp at hz; omega) | (simp at hz; omega)))⟩
theorem sh13 {t : Nd} (h : t.kind = 13) (hx : stmtB t = true) : t.kids.length = 1 ∧ exprB (Zd t 0) = true := by
 rw [← Jh] at hx; unfold refStmt at hx; rw [h] at hx
 have hx : ((plainB t && lenK t 1) && (kindB (Zd t 0) 30 || kindB (Zd t 0) 33)) = true := hx
 simp only [Bool.and_eq_true, Bool.or_eq_true, decide_eq_true_eq] at hx
 exact ⟨by (have hz := hx.1.2; first | (unfold lenK at hz; simp at hz; omega) | (simp at hz; omega)), hx.2.elim (fun h => (Wed h).2) (fun h => (Wed h).2)⟩
theorem sh14 {t : Nd} (h : t.kind = 14) (hx : stmtB t = true) : t.kids.length = 1 ∧ exprB (Zd t 0) = true := by
 rw [← Jh] at hx; unfold refStmt at hx; rw [h] at hx
 have hx : ((plainB t && lenK t 1) && kindB (Zd t 0) 30) = true := hx
 simp only [Bool.and_eq_true, Bool.or_eq_true, decide_eq_true_eq] at hx
 exact ⟨by (have hz := hx.1.2; first | (unfold lenK at hz; simp at hz; omega) | (simp at hz; omega)), (Wed hx.2).2⟩
theorem sh15 {t : Nd} (h : t.kind = 15) (hx : stmtB t = true) : t.kids.length = 1 ∧ exprB (Zd t 0) = true := by
 rw [← Jh] at hx; unfold refStmt at hx; rw [h] at hx
 have hx : ((plainB t && lenK t 1) && kindB (Zd t 0) 30) = true := hx
 simp only [Bool.and_eq_true, Bool.or_eq_true, decide_eq_true_eq] at hx
 exact ⟨by (have hz := hx.1.2; first | (unfold lenK at hz; simp at hz; omega) | (simp at hz; omega)), (Wed hx.2).2⟩
theorem sh17 {t : Nd} (h : t.kind = 17) (hx : stmtB t = true) : t.kids.length = 1 ∧ exprB (Zd t 0) = true := by
 rw [← Jh] at hx; unfold refStmt at hx; rw [h] at hx
 have hx : ((plainB t && lenK t 1) && exprB (Zd t 0)) = true := hx
 simp only [Bool.and_eq_true, Bool.or_eq_true, decide_eq_true_eq] at hx
 exact ⟨by (have hz := hx.1.2; first | (unfold lenK at hz; simp at hz; omega) | (simp at hz; omega)), hx.2⟩
theorem sh21 {t : Nd} (h : t.kind = 21) (hx : stmtB t = true) : t.kids.length = 1 ∧ exprB (Zd t 0) = true := by
 rw [← Jh] at hx; unfold refStmt at hx; rw [h] at hx
 have hx : ((plainB t && lenK t 1) && exprB (Zd t 0)) = true := hx
 simp only [Bool.and_eq_true, Bool.or_eq_true, decide_eq_true_eq] at hx
 exact ⟨by (have hz := hx.1.2; first | (unfold lenK at hz; simp at hz; omega) | (simp at hz; omega)), hx.2⟩
theorem sh20 {t : Nd} (h : t.kind = 20) (hx : stmtB t = true) : t.kids.length ≤ 1 ∧ t.kids.all exprB = true := by
 rw [← Jh] at hx; unfold refStmt at hx; rw [h] at hx
 have hx : ((plainB t && decide ((t.kids.length : Int) ≤ 1)) && t.kids.all exprB) = true := hx
 simp only [Bool.and_eq_true, Bool.or_eq_true, decide_eq_true_eq] at hx
 exact ⟨by have := hx.1.2; omega, hx.2⟩
theorem sh19 {t : Nd} (h : t.kind = 19) (hx : stmtB t = true) : t.kids.length = 2 ∧ (noneB (Zd t 0) = true ∨ exprB (Zd t 0) = true) ∧ blockB (Zd t 1) = true := by
 rw [← Jh] at hx; unfold refStmt at hx; rw [h] at hx
 have hx : (((plainB t && lenK t 2) && (noneB (Zd t 0) || exprB (Zd t 0))) && blockB (Zd t 1)) = true := hx
 simp only [Bool.and_eq_true, Bool.or_eq_true, decide_eq_true_eq] at hx
 exact ⟨by (have hz := hx.1.1.2; first | (unfold lenK at hz; simp at hz; omega) | (simp at hz; omega)), hx.1.2, hx.2⟩
theorem sh6s {t : Nd} (h : t.kind = 6) (hx : stmtB t = true) : varB t = true := by
 rw [← Jh] at hx; unfold refStmt at hx; rw [h] at hx
 have hx : (varB t) = true := hx
 exact hx
theorem sh10s {t : Nd} (h : t.kind = 10) (hx : stmtB t = true) : blockB t = true := by
 rw [← Jh] at hx; unfold refStmt at hx; rw [h] at hx
 have hx : (blockB t) = true := hx
 exact hx
theorem sh18s {t : Nd} (h : t.kind = 18) (hx : stmtB t = true) : ifB t = true := by
 rw [← Jh] at hx; unfold refStmt at hx; rw [h] at hx
 have hx : (ifB t) = true := hx
 exact hx
theorem sh10 {t : Nd} (hx : blockB t = true) : t.kids.all stmtB = true := by
 rw [← Yic, Jmb] at hx
 cases h : (!decide (t.kind = 10) || !plainB t)
 ·rw [h] at hx; exact hx
 ·rw [h] at hx; cases hx
theorem sh18 {t : Nd} (hx : ifB t = true) : t.kids.length = 3 ∧ exprB (Zd t 0) = true ∧ blockB (Zd t 1) = true ∧ (blockB (Zd t 2) = true ∨ ifB (Zd t 2) = true ∨ noneB (Zd t 2) = true) := by
 rw [← Ujd, Xme] at hx
 cases h : ((!decide (t.kind = 18) || !plainB t) || !lenK t 3)
 ·rw [h, cond_false] at hx
  simp only [Bool.and_eq_true, Bool.or_eq_true] at hx
  simp only [Bool.or_eq_false_iff, Bool.not_eq_false'] at h
  exact ⟨by (have hz := h.2; first | (unfold lenK at hz; simp at hz; omega) | (simp at hz; omega)), hx.1.1, hx.1.2, hx.2.elim (fun h => h.elim .inl fun h => .inr (.inl h)) fun h => .inr (.inr h)⟩
 ·rw [h] at hx; cases hx
theorem sh6 {t : Nd} (hx : varB t = true) : t.text ≠ [] ∧ t.kids.length = 2 ∧ isTypeB (Zd t 0) = true ∧ (noneB (Zd t 1) = true ∨ exprB (Zd t 1) = true) := by
 rw [← Zjd, refVar] at hx
 simp only [Bool.and_eq_true, Bool.or_eq_true] at hx
 exact ⟨Wdd hx.1.1.1.2, by (have hz := hx.1.1.2; first | (unfold lenK at hz; simp at hz; omega) | (simp at hz; omega)), hx.1.2, hx.2⟩
theorem sh22 {t : Nd} (h : t.kind = 22) (hx : stmtB t = true) : t.kids.all Qwa = true := by
 have hp : permF t = true := (Bool.and_eq_true_iff.1 hx).2
 rw [← Jnb h] at hp
 exact (Bool.and_eq_true_iff.1 hp).1
theorem sh23 {t : Nd} (hx : Qwa t = true) : t.kind = 23 ∧ t.kids.length = 2 ∧ commF (Zd t 0) = true ∧ blockB (Zd t 1) = true := by
 unfold Qwa at hx
 simp only [Bool.and_eq_true, decide_eq_true_eq] at hx
 exact ⟨hx.1.1.1.1, by (have hz := hx.1.1.2; first | (unfold lenK at hz; simp at hz; omega) | (simp at hz; omega)), hx.1.2, hx.2⟩
theorem Ztd {t : Nd} (h : commF t = true) : t.kind = 9 ∨ stmtB t = true := by
 rw [← Umc, Qva] at h
 cases h1 : anyK [16, 9] t.kind
 ·rw [h1, cond_false] at h
  cases h2 : decide (t.kind = 13)
  ·rw [h2, cond_false] at h
   cases h3 : decide (t.kind = 12)
   ·rw [h3, cond_false] at h
    cases h4 : decide (t.kind = 11)
    ·rw [h4] at h; cases h
    ·rw [h4] at h; exact .inr (Bool.and_eq_true_iff.1 h).1
   ·rw [h3] at h; exact .inr (Bool.and_eq_true_iff.1 h).1
  ·rw [h2] at h; exact .inr (Bool.and_eq_true_iff.1 h).1
 ·rw [h1, cond_true, Bool.or_eq_true] at h
  exact h.elim .inr fun h => .inl (Uia h).1
def tabsL (k : Nat) : List UInt8 := List.replicate k 9
def digF : Nat → Nat → List UInt8
 | 0, _ => []
 | f + 1, n => bif Nat.blt n 10 then [UInt8.ofNat (48 + n)] else digF f (n / 10) ++ [UInt8.ofNat (48 + n % 10)]
def digL (n : Nat) : List UInt8 := digF 20 n
structure Tx where
 ex : Nat → List UInt8
 st : Nat → List UInt8
 ls : Nat → List UInt8
 cs : Nat → List UInt8
def tx0 : Tx := ⟨fun _ => [], fun _ => [], fun _ => [], fun _ => []⟩
def blkX (x : Tx) (k : Nat) : List UInt8 := (([123, 10] ++ x.ls (k + 1)) ++ tabsL k) ++ [125]
def parX (q : Bool) (s : List UInt8) : List UInt8 := bif q then ([40] ++ s) ++ [41] else s
def joinX : List (List UInt8) → List UInt8
 | [] => []
 | s :: r => s ++ r.flatMap fun u => [44, 32] ++ u
def typeX (t : Nd) : List UInt8 := bif decide (t.kind = 8) then [42] ++ t.text else bif decide (t.text = [99, 104, 97, 110]) then [99, 104, 97, 110, 32, 105, 110, 116] else bif decide (t.text = [102, 117, 110, 99]) then [102, 117, 110, 99, 40, 41] else t.text
section
variable (t : Nd) (x : Nat → Tx) (l : List Tx)
def oprX (i k : Nat) : List UInt8 := parX (decide ((Zd t i).kind = 32)) ((x i).ex k)
def basX (k : Nat) : List UInt8 := parX ((decide ((Zd t 0).kind = 32) || decide ((Zd t 0).kind = 31)) || decide ((Zd t 0).kind = 33)) ((x 0).ex k)
def exX (k : Nat) : List UInt8 :=
 bif decide (t.kind = 24) then digL t.num.toNat
 else bif decide (t.kind = 25) then (bif decide (t.num = 1) then [116, 114, 117, 101] else [102, 97, 108, 115, 101])
 else bif decide (t.kind = 26) then [110, 105, 108]
 else bif decide (t.kind = 27) then t.text
 else bif decide (t.kind = 34) then ([110, 101, 119, 40] ++ t.text) ++ [41]
 else bif decide (t.kind = 28) then (basX t x k ++ [46]) ++ t.text
 else bif decide (t.kind = 29) then ((basX t x k ++ [91]) ++ (x 1).ex k) ++ [93]
 else bif decide (t.kind = 30) then ((basX t x k ++ [40]) ++ joinX ((l.drop 1).map fun y => y.ex k)) ++ [41]
 else bif decide (t.kind = 31) then t.text ++ oprX t x 0 k
 else bif decide (t.kind = 33) then [60, 45] ++ oprX t x 0 k
 else bif decide (t.kind = 32) then (((oprX t x 0 k ++ [32]) ++ t.text) ++ [32]) ++ oprX t x 1 k
 else bif decide (t.kind = 35) then ([109, 97, 107, 101, 40, 91, 93, 105, 110, 116, 44, 32] ++ (x 0).ex k) ++ [41]
 else bif decide (t.kind = 36) then ([109, 97, 107, 101, 40, 99, 104, 97, 110, 32, 105, 110, 116, 44, 32] ++ (x 0).ex k) ++ [41]
 else bif decide (t.kind = 37) then ([108, 101, 110, 40] ++ (x 0).ex k) ++ [41]
 else [102, 117, 110, 99, 40, 41, 32] ++ blkX (x 0) k
def varX (k : Nat) : List UInt8 := ((([118, 97, 114, 32] ++ t.text) ++ [32]) ++ typeX (Zd t 0)) ++ (bif decide ((Zd t 1).kind = 9) then [] else [32, 61, 32] ++ (x 1).ex k)
def ifX (k : Nat) : List UInt8 := ((([105, 102, 32] ++ (x 0).ex k) ++ [32]) ++ blkX (x 1) k) ++ (bif decide ((Zd t 2).kind = 10) then [32, 101, 108, 115, 101, 32] ++ blkX (x 2) k else bif decide ((Zd t 2).kind = 18) then [32, 101, 108, 115, 101, 32] ++ (x 2).st k else [])
def stX (k : Nat) : List UInt8 :=
 bif decide (t.kind = 6) then varX t x k
 else bif decide (t.kind = 10) then (([123, 10] ++ l.flatMap fun y => (tabsL (k + 1) ++ y.st (k + 1)) ++ [10]) ++ tabsL k) ++ [125]
 else bif decide (t.kind = 11) then (t.text ++ [32, 58, 61, 32]) ++ (x 0).ex k
 else bif decide (t.kind = 12) then ((x 0).ex k ++ [32, 61, 32]) ++ (x 1).ex k
 else bif decide (t.kind = 13) then (x 0).ex k
 else bif decide (t.kind = 14) then [103, 111, 32] ++ (x 0).ex k
 else bif decide (t.kind = 15) then [100, 101, 102, 101, 114, 32] ++ (x 0).ex k
 else bif decide (t.kind = 16) then ((x 0).ex k ++ [32, 60, 45, 32]) ++ (x 1).ex k
 else bif decide (t.kind = 17) then ([99, 108, 111, 115, 101, 40] ++ (x 0).ex k) ++ [41]
 else bif decide (t.kind = 21) then ([112, 114, 105, 110, 116, 40] ++ (x 0).ex k) ++ [41]
 else bif decide (t.kind = 18) then ifX t x k
 else bif decide (t.kind = 22) then (([115, 101, 108, 101, 99, 116, 32, 123, 10] ++ l.flatMap fun y => y.cs k) ++ tabsL k) ++ [125]
 else bif decide (t.kind = 20) then (bif lenK t 0 then [114, 101, 116, 117, 114, 110] else [114, 101, 116, 117, 114, 110, 32] ++ (x 0).ex k)
 else bif decide ((Zd t 0).kind = 9) then [102, 111, 114, 32] ++ blkX (x 1) k
 else (([102, 111, 114, 32] ++ (x 0).ex k) ++ [32]) ++ blkX (x 1) k
def csX (k : Nat) : List UInt8 := (bif decide ((Zd t 0).kind = 9) then tabsL k ++ [100, 101, 102, 97, 117, 108, 116, 58, 10] else ((tabsL k ++ [99, 97, 115, 101, 32]) ++ (x 0).st k) ++ [58, 10]) ++ (x 1).ls (k + 1)
end
def lsX (l : List Tx) (k : Nat) : List UInt8 := l.flatMap fun y => (tabsL k ++ y.st k) ++ [10]
def txF (t : Nd) (l : List Tx) : Tx := ⟨exX t (fun i => l.getD i tx0) l, stX t (fun i => l.getD i tx0) l, lsX l, csX t (fun i => l.getD i tx0)⟩
def txT (t : Nd) : Tx := para txF t
/-! the program's way: a line feed ahead of each line -/
abbrev Bs := List UInt8
def cut : Bs → Bs → Option Bs
 | [], s => some s
 | _ :: _, [] => none
 | a :: p, b :: s => bif decide (a = b) then cut p s else none
def hd (s : Bs) : UInt8 := s.headD 0
def wdF (s : Bs) : Bs := s.takeWhile alB
def wrF (s : Bs) : Bs := s.dropWhile alB
def dgB (c : UInt8) : Bool := digitB c.toNat
def nb (s : Bs) : Bool := !alB (hd s)
def cutOps : List Bs → Bs → Option (Bs × Bs)
 | [], _ => none
 | o :: l, s => match cut (o ++ [32]) s with
  | some r => some (o, r)
  | none => cutOps l s
def Uvf (s : Bs) : Option (Bs × Bs) := match cut [32] s with
 | some r => cutOps binOps r
 | none => none
def nd (k : Int) (s : Bs) (n : Int) (ks : List Nd) : Nd := .mk k s n 0 ks ty0 0 0
inductive Md where
 | e | u | s (x : Nd) | a (l : List Nd) | b | l (l : List Nd) | t | i | c (l : List Nd)
def tyP (s : Bs) : Option (Nd × Bs) := match cut [42] s with
 | some r => some (nd 8 (wdF r) 0 [], wrF r)
 | none => match cut [91, 93, 105, 110, 116] s with
  | some r => some (nd 7 [91, 93, 105, 110, 116] 0 [], r)
  | none =>
   bif decide (wdF s = [99, 104, 97, 110]) then (cut [32, 105, 110, 116] (wrF s)).map fun r => (nd 7 [99, 104, 97, 110] 0 [], r)
   else bif decide (wdF s = [102, 117, 110, 99]) then (cut [40, 41] (wrF s)).map fun r => (nd 7 [102, 117, 110, 99] 0 [], r)
   else some (nd 7 (wdF s) 0 [], wrF s)
section
variable (p : Md → Bs → Option (Nd × Bs))
def atP (s : Bs) : Option (Nd × Bs) :=
 match cut [40] s with
 | some r => (p .e r).bind fun x => (cut [41] x.2).map fun r => (x.1, r)
 | none =>
  bif dgB (hd s) then some (nd 24 [] (valN 0 (s.takeWhile dgB)) [], s.dropWhile dgB)
  else bif decide (wdF s = [116, 114, 117, 101]) then some (nd 25 [] 1 [], wrF s)
  else bif decide (wdF s = [102, 97, 108, 115, 101]) then some (nd 25 [] 0 [], wrF s)
  else bif decide (wdF s = [110, 105, 108]) then some (nd 26 [] 0 [], wrF s)
  else bif decide (wdF s = [110, 101, 119]) then (cut [40] (wrF s)).bind fun r => (cut [41] (wrF r)).map fun r1 => (nd 34 (wdF r) 0 [], r1)
  else bif decide (wdF s = [109, 97, 107, 101]) then
   match cut [40, 91, 93, 105, 110, 116, 44, 32] (wrF s) with
   | some r => (p .e r).bind fun x => (cut [41] x.2).map fun r => (nd 35 [] 0 [x.1], r)
   | none => (cut [40, 99, 104, 97, 110, 32, 105, 110, 116, 44, 32] (wrF s)).bind fun r => (p .e r).bind fun x => (cut [41] x.2).map fun r => (nd 36 [] 0 [x.1], r)
  else bif decide (wdF s = [108, 101, 110]) then (cut [40] (wrF s)).bind fun r => (p .e r).bind fun x => (cut [41] x.2).map fun r => (nd 37 [] 0 [x.1], r)
  else bif decide (wdF s = [102, 117, 110, 99]) then (cut [40, 41, 32, 123, 10] (wrF s)).bind fun r => (p .b r).map fun x => (nd 38 [] 0 [x.1], x.2)
  else some (nd 27 (wdF s) 0 [], wrF s)
def unP (s : Bs) : Option (Nd × Bs) :=
 match cut [45] s with
 | some r => (p .u r).map fun x => (nd 31 [45] 0 [x.1], x.2)
 | none => match cut [33] s with
  | some r => (p .u r).map fun x => (nd 31 [33] 0 [x.1], x.2)
  | none => match cut [60, 45] s with
   | some r => (p .u r).map fun x => (nd 33 [] 0 [x.1], x.2)
   | none => (atP p s).bind fun x => p (.s x.1) x.2
def exP (s : Bs) : Option (Nd × Bs) := (p .u s).bind fun x => match Uvf x.2 with
 | some o => (p .u o.2).map fun y => (nd 32 o.1 0 [x.1, y.1], y.2)
 | none => some x
def sfP (x : Nd) (s : Bs) : Option (Nd × Bs) :=
 match cut [46] s with
 | some r => p (.s (nd 28 (wdF r) 0 [x])) (wrF r)
 | none => match cut [91] s with
  | some r => (p .e r).bind fun y => (cut [93] y.2).bind fun r => p (.s (nd 29 [] 0 [x, y.1])) r
  | none => match cut [40] s with
   | some r => (p (.a []) r).bind fun l => p (.s (nd 30 [] 0 (x :: l.1.kids))) l.2
   | none => some (x, s)
def arP (l : List Nd) (s : Bs) : Option (Nd × Bs) :=
 match cut [41] s with
 | some r => some (nd 0 [] 0 l, r)
 | none => (p .e s).bind fun x => match cut [44, 32] x.2 with
  | some r => p (.a (l ++ [x.1])) r
  | none => (cut [41] x.2).map fun r => (nd 0 [] 0 (l ++ [x.1]), r)
def tabsP (s : Bs) : Bs := s.dropWhile fun c => decide (c = 9)
def stopB (s : Bs) : Bool := decide (hd s = 125) || anyS [[99, 97, 115, 101], [100, 101, 102, 97, 117, 108, 116]] (wdF s)
def lnP (l : List Nd) (s : Bs) : Option (Nd × Bs) :=
 bif stopB (tabsP s) then some (nd 10 [] 0 l, tabsP s)
 else (p .t (tabsP s)).bind fun x => (cut [10] x.2).bind fun r => p (.l (l ++ [x.1])) r
def blP' (s : Bs) : Option (Nd × Bs) := (p (.l []) s).bind fun x => (cut [125] x.2).map fun r => (x.1, r)
def brP (s : Bs) : Option (Nd × Bs) := (cut [123, 10] s).bind fun r => p .b r
def ifP (s : Bs) : Option (Nd × Bs) := (p .e s).bind fun x => (cut [32] x.2).bind fun r => (brP p r).bind fun y =>
 match cut [32, 101, 108, 115, 101, 32, 105, 102, 32] y.2 with
 | some r => (p .i r).map fun z => (nd 18 [] 0 [x.1, y.1, z.1], z.2)
 | none => match cut [32, 101, 108, 115, 101, 32] y.2 with
  | some r => (brP p r).map fun z => (nd 18 [] 0 [x.1, y.1, z.1], z.2)
  | none => some (nd 18 [] 0 [x.1, y.1, nd 9 [] 0 []], y.2)
def csP (l : List Nd) (s : Bs) : Option (Nd × Bs) :=
 match cut [125] (tabsP s) with
 | some r => some (nd 22 [] 0 l, r)
 | none => match cut [100, 101, 102, 97, 117, 108, 116, 58, 10] (tabsP s) with
  | some r => (p (.l []) r).bind fun b => p (.c (l ++ [nd 23 [] 0 [nd 9 [] 0 [], b.1]])) b.2
  | none => (cut [99, 97, 115, 101, 32] (tabsP s)).bind fun r => (p .t r).bind fun x => (cut [58, 10] x.2).bind fun r => (p (.l []) r).bind fun b => p (.c (l ++ [nd 23 [] 0 [x.1, b.1]])) b.2
def oneP (k : Int) (s : Bs) : Option (Nd × Bs) := (cut [40] s).bind fun r => (p .e r).bind fun x => (cut [41] x.2).map fun r => (nd k [] 0 [x.1], r)
def spP (k : Int) (s : Bs) : Option (Nd × Bs) := (cut [32] s).bind fun r => (p .e r).map fun x => (nd k [] 0 [x.1], x.2)
def varP (s : Bs) : Option (Nd × Bs) := (cut [32] s).bind fun r => (cut [32] (wrF r)).bind fun r1 => (tyP r1).bind fun y =>
 match cut [32, 61, 32] y.2 with
 | some r2 => (p .e r2).map fun z => (nd 6 (wdF r) 0 [y.1, z.1], z.2)
 | none => some (nd 6 (wdF r) 0 [y.1, nd 9 [] 0 []], y.2)
def simP (s : Bs) : Option (Nd × Bs) := (p .e s).bind fun x =>
 match cut [32, 58, 61, 32] x.2 with
 | some r => (p .e r).map fun y => (nd 11 x.1.text 0 [y.1], y.2)
 | none => match cut [32, 61, 32] x.2 with
  | some r => (p .e r).map fun y => (nd 12 [] 0 [x.1, y.1], y.2)
  | none => match cut [32, 60, 45, 32] x.2 with
   | some r => (p .e r).map fun y => (nd 16 [] 0 [x.1, y.1], y.2)
   | none => some (nd 13 [] 0 [x.1], x.2)
def stP (s : Bs) : Option (Nd × Bs) :=
 match cut [123, 10] s with
 | some r => p .b r
 | none =>
  bif decide (wdF s = [118, 97, 114]) then varP p (wrF s)
  else bif decide (wdF s = [103, 111]) then spP p 14 (wrF s)
  else bif decide (wdF s = [100, 101, 102, 101, 114]) then spP p 15 (wrF s)
  else bif decide (wdF s = [99, 108, 111, 115, 101]) then oneP p 17 (wrF s)
  else bif decide (wdF s = [112, 114, 105, 110, 116]) then oneP p 21 (wrF s)
  else bif decide (wdF s = [105, 102]) then (cut [32] (wrF s)).bind fun r => p .i r
  else bif decide (wdF s = [115, 101, 108, 101, 99, 116]) then (cut [32, 123, 10] (wrF s)).bind fun r => p (.c []) r
  else bif decide (wdF s = [114, 101, 116, 117, 114, 110]) then match cut [32] (wrF s) with
   | some r => (p .e r).map fun x => (nd 20 [] 0 [x.1], x.2)
   | none => some (nd 20 [] 0 [], wrF s)
  else bif decide (wdF s = [102, 111, 114]) then match cut [32, 123, 10] (wrF s) with
   | some r => (p .b r).map fun x => (nd 19 [] 0 [nd 9 [] 0 [], x.1], x.2)
   | none => (cut [32] (wrF s)).bind fun r => (p .e r).bind fun x => (cut [32] x.2).bind fun r => (brP p r).map fun y => (nd 19 [] 0 [x.1, y.1], y.2)
  else simP p s
def stepP : Md → Bs → Option (Nd × Bs)
 | .e, s => exP p s
 | .u, s => unP p s
 | .s x, s => sfP p x s
 | .a l, s => arP p l s
 | .b, s => blP' p s
 | .l l, s => lnP p l s
 | .t, s => stP p s
 | .i, s => ifP p s
 | .c l, s => csP p l s
end
def pG : Nat → Md → Bs → Option (Nd × Bs)
 | 0 => fun _ _ => none
 | f + 1 => stepP (pG f)
section
variable {t : Nd} {x : Nat → Tx} {l : List Tx} {k : Nat}
end
theorem Zif {t : Nd} (h : exprB t = true) : t.kind = 24 ∨ t.kind = 25 ∨ t.kind = 26 ∨ t.kind = 27 ∨ t.kind = 34 ∨ t.kind = 28 ∨ t.kind = 29 ∨ t.kind = 30 ∨ t.kind = 31 ∨ t.kind = 33 ∨ t.kind = 32 ∨ t.kind = 35 ∨ t.kind = 36 ∨ t.kind = 37 ∨ t.kind = 38 := by
 have := (Qga _ _).1 (Bool.and_eq_true_iff.1 h).1
 simp only [List.mem_cons, List.not_mem_nil, or_false] at this
 omega
theorem Ufe {t : Nd} (h : stmtB t = true) : t.kind = 6 ∨ t.kind = 10 ∨ t.kind = 11 ∨ t.kind = 12 ∨ t.kind = 13 ∨ t.kind = 14 ∨ t.kind = 15 ∨ t.kind = 16 ∨ t.kind = 17 ∨ t.kind = 21 ∨ t.kind = 18 ∨ t.kind = 22 ∨ t.kind = 20 ∨ t.kind = 19 := by
 have := (Qga _ _).1 (Bool.and_eq_true_iff.1 h).1
 simp only [List.mem_cons, List.not_mem_nil, or_false] at this
 omega
def stW : List Bs := [[118, 97, 114], [103, 111], [100, 101, 102, 101, 114], [99, 108, 111, 115, 101], [112, 114, 105, 110, 116], [105, 102], [115, 101, 108, 101, 99, 116], [114, 101, 116, 117, 114, 110], [102, 111, 114], [99, 97, 115, 101], [100, 101, 102, 97, 117, 108, 116]]
def opn (c : UInt8) : Bool := alB c || (decide (c = 40) || (decide (c = 45) || (decide (c = 33) || decide (c = 60))))
structure Hx (s : Bs) : Prop where
 o : opn (hd s) = true
 w : anyS stW (wdF s) = false
theorem kids1 {t : Nd} (h : t.kids.length = 1) : t.kids = [Zd t 0] := by
 match hk : t.kids with
 | [a] => rw [Zd, hk]; rfl
 | [] => rw [hk] at h; cases h
 | _ :: _ :: _ => rw [hk] at h; simp at h
theorem kids2 {t : Nd} (h : t.kids.length = 2) : t.kids = [Zd t 0, Zd t 1] := by
 match hk : t.kids with
 | [a, b] => rw [Zd, Zd, hk]; rfl
 | [] => rw [hk] at h; cases h
 | [_] => rw [hk] at h; cases h
 | _ :: _ :: _ :: _ => rw [hk] at h; simp at h
theorem kids3 {t : Nd} (h : t.kids.length = 3) : t.kids = [Zd t 0, Zd t 1, Zd t 2] := by
 match hk : t.kids with
 | [a, b, c] => rw [Zd, Zd, Zd, hk]; rfl
 | [] => rw [hk] at h; cases h
 | [_] => rw [hk] at h; cases h
 | [_, _] => rw [hk] at h; cases h
 | _ :: _ :: _ :: _ :: _ => rw [hk] at h; simp at h
theorem cn1 {t : Nd} (h : t.kids.length = 1) : count t = 1 + count (Zd t 0) := by rw [Jx, kids1 h]; simp
theorem cn2 {t : Nd} (h : t.kids.length = 2) : count t = 1 + count (Zd t 0) + count (Zd t 1) := by rw [Jx, kids2 h]; simp; omega
theorem cn3 {t : Nd} (h : t.kids.length = 3) : count t = 1 + count (Zd t 0) + count (Zd t 1) + count (Zd t 2) := by rw [Jx, kids3 h]; simp; omega
theorem Jpf {s : Bs} (h : opn (hd s) = true) {c : UInt8} (hc : opn c = false) : hd s ≠ c := fun e => by rw [e, hc] at h; cases h
theorem Hx.ne {s : Bs} (h : Hx s) {c : UInt8} (hc : opn c = false) : hd s ≠ c := Jpf h.o hc
def folB (r : Bs) : Bool := nb r && (decide (hd r ≠ 46) && (decide (hd r ≠ 91) && decide (hd r ≠ 40)))
structure Rx (t : Nd) : Prop where
 e : exprB t = true → ∀ k r f, folB r = true → Uvf r = none → 10 * count t ≤ f + 2 → pG f .e ((txT t).ex k ++ r) = some (stripT t, r)
 u : exprB t = true → t.kind ≠ 32 → ∀ k r f, folB r = true → 10 * count t ≤ f + 3 → pG f .u ((txT t).ex k ++ r) = some (stripT t, r)
 s : exprB t = true → t.kind ≠ 31 → t.kind ≠ 32 → t.kind ≠ 33 → ∀ k r f, nb r = true → 10 * count t ≤ f + 4 → ∃ f', f + 4 ≤ f' + 10 * count t ∧ pG f .u ((txT t).ex k ++ r) = pG f' (.s (stripT t)) r
 b : blockB t = true → ∀ k r f, 10 * count t ≤ f + 2 → pG f .b (((txT t).ls (k + 1) ++ tabsL k) ++ ([125] ++ r)) = some (stripT t, r)
section
variable {p : Md → Bs → Option (Nd × Bs)}
end
def KdX (lo : Nat) (X : List Nat) (w : World) (ks : List Nd) (v : Value) : Prop := Kd w (fun k => (lo ≤ k ∧ k ∉ X) ∧ NdR w k) ks v
section
variable {lo lo' n0 j b : Nat} {X : List Nat} {w w' : World} {ks : List Nd} {v : Value}
theorem KdN.x (h : KdN lo w ks v) (hX : ∀ j ∈ X, j < lo) : KdX lo X w ks v := Kd.mono h fun k hk _ => ⟨⟨hk.1, fun hm => by have := hX k hm; omega⟩, hk.2⟩
theorem KdX.kdN (h : KdX lo X w ks v) (hl : lo' ≤ lo) : KdN lo' w ks v := Kd.mono h fun k hk _ => ⟨Nat.le_trans hl hk.1.1, hk.2⟩
theorem KdX.grow (h : KdX lo X w ks v) (g : G w w') : KdX lo X w' ks v := Yaa h (fun k hk _ => ⟨hk.1, hk.2.grow g⟩) fun k hk hlt => g.block hlt
theorem KdX.gt (h : KdX lo X w ks v) (g : GT mutR n0 w w') : KdX lo X w' ks v := Yaa h (fun k hk _ => ⟨hk.1, hk.2.gt g rfl⟩) fun k hk hlt => g.block k hlt (.inr (hk.2.ntyr rfl))
theorem KdX.keep (h : KdX lo X w ks v) (hg : w.grownBy w' (some j)) (hj : j < lo ∨ j ∈ X) : KdX lo X w' ks v := by
 have hne : ∀ k, (lo ≤ k ∧ k ∉ X) → k ≠ j := fun k hk e => by
  subst e
  rcases hj with hj | hj
  ·omega
  ·exact hk.2 hj
 have hs : ∀ k, (lo ≤ k ∧ k ∉ X) → k < w.heap.size → w'.heap[k]? = w.heap[k]? := fun k hk hlt => hg.block k hlt fun e => by injection e with e; exact hne k hk e
 exact Yaa h (fun k hk hlt => ⟨hk.1, hk.2.same (hs k hk.1 hlt)⟩) fun k hk hlt => hs k hk.1 hlt
theorem KdX.new {e : TypeId} {l : List Value} (h : KdX lo X w ks v) (N : New w w' b e l) : KdX lo (b :: X) w' ks v := by
 have := N.at_
 exact Yaa h (fun k hk hlt => ⟨⟨hk.1.1, fun hm => by
  rcases List.mem_cons.1 hm with e | e
  ·omega
  ·exact hk.1.2 e⟩, hk.2.grow N.g⟩) fun k hk hlt => N.g.block hlt
theorem KdX.keepb {e : TypeId} {l : List Value} (h : KdX lo X w ks v) (hg : w.grownBy w' (some j)) (hB : Blk w j e l) (he : Nat.beq e Vd = false) : KdX lo X w' ks v := by
 have hne : ∀ k, NdR w k → k ≠ j := fun k ⟨cs, fr, hk⟩ q => by
  subst q
  unfold Blk at hB
  rw [hB] at hk; injection hk with hk; injection hk with _ hk; subst hk; simp at he
 exact Yaa h (fun k hk hlt => ⟨hk.1, hk.2.same (hg.block k hlt fun e => by injection e with e; exact hne k hk.2 e)⟩) fun k hk hlt => hg.block k hlt fun e => by injection e with e; exact hne k hk.2 e
end
theorem OwnN.keept {Y : List Nat} {lo : Nat} {w w' : World} {ks : List Nd} {s : Value} {j : Nat} {e : TypeId} {l : List Value} (h : OwnN Y lo w ks s) (hg : w.grownBy w' (some j)) (hB : Blk w j e l) (he : Nat.beq e Vd = false) : OwnN Y lo w' ks s := by
 have hne : ∀ k, NdR w k → k ≠ j := fun k ⟨cs, fr, hk⟩ q => by
  subst q
  unfold Blk at hB
  rw [hB] at hk; injection hk with hk; injection hk with _ hk; subst hk; simp at he
 have hnd := h.nd
 exact Zjb h (fun k hk hlt => ⟨hk.1, hk.2.same (hg.block k hlt fun e => by injection e with e; exact hne k hk.2 e)⟩) (fun k hk hlt => hg.block k hlt fun e => by injection e with e; exact hne k hk.2 e) fun xs h' => Vy h' hg (.inr fun e => hne j (hnd j e) rfl)
theorem Zra {lo m0 : Nat} {X Y : List Nat} {w : World} {t : Nd} {v s : Value} (h : KdX lo X w t.kids v) (hm : m0 ≤ lo) (hY : ∀ j ∈ Y, j ∈ X ∨ j < lo) (hs : ∀ j, s.ownBlock = some j → j ∈ X ∨ j < lo) : KRow w (fun k => (Dx m0 Y k ∧ NdR w k) ∧ some k ≠ s.ownBlock) [t] (ndCells t v) := by
 refine Wp (Kd.mono h fun k hk _ => ⟨⟨⟨Nat.le_trans hm hk.1.1, fun hy => ?_⟩, hk.2⟩, fun e => ?_⟩)
 ·rcases hY k hy with q | q
  ·exact hk.1.2 q
  ·have := hk.1.1; omega
 ·rcases hs k e.symm with q | q
  ·exact hk.1.2 q
  ·have := hk.1.1; omega
@[reducible] def gtR (n0 : Nat) : RelX := ⟨fun w w' => GT mutR n0 w w', GT.refl mutR n0, fun h k => GT.trans h k⟩
theorem Uja {w : World} {D : Nat → Prop} {t : Nd} {p : Option Addr} {c : Nat} (hk : Kd w D t.kids (.slice p t.kids.length c)) {i : Nat} (h : i < t.kids.length) : D (pb p) := by
 obtain ⟨p', c', hpe, _, hks⟩ := hk
 injection hpe with hpe _ hce
 subst hpe hce
 obtain ⟨b2, o2, rfl, hD, _⟩ := hks (by omega)
 exact hD
theorem Xz {t : Nd} {lo : Nat} {r v : Value} {w : World} (e : r = ndV t v) (h : KdN lo w t.kids v) : RetN t lo r w := e ▸ Xke h
def CkM' (M : Nat) (F : Nd) (fn : FuncId) (t : Nd) (X : CSt → Nd × CSt) : Prop := ∀ {n0 b : Nat} {S : CSt} {w : World} {v : Value} {N : Nat}, Chk F n0 b S w → Kd w (fun k => k < n0) t.kids v → Bd S N → N + count t ≤ M →
 Ret PP fn #[.pointer (some ⟨b, 0, none⟩), ndV t v] w fun r w' => RetN (X S).1 w.heap.size r w' ∧ Chk F n0 b (X S).2 w' ∧ GT mutR n0 w w'
abbrev CkC := CkM' 1000000
theorem CkC.to {M : Nat} {F : Nd} {fn : FuncId} {t : Nd} {X : CSt → Nd × CSt} (H : CkM' M F fn t X) {n0 b : Nat} {S : CSt} {w : World} {v : Value} {N m0 : Nat} (Z : List Nat) (h : Chk F n0 b S w) (hk : Kd w (fun k => k < n0) t.kids v) (hb : Bd S N) (hc : N + count t ≤ M) (hZ : ∀ j ∈ Z, j < w.heap.size) (hm : m0 ≤ w.heap.size) :
  Ret PP fn #[.pointer (some ⟨b, 0, none⟩), ndV t v] w fun r w' => (∃ p c, r = ndV (X S).1 (.slice p (X S).1.kids.length c) ∧ m0 ≤ w.heap.size ∧ KdX w.heap.size Z w' (X S).1.kids (.slice p (X S).1.kids.length c)) ∧ Chk F n0 b (X S).2 w' ∧ GT mutR n0 w w' :=
 (H h hk hb hc).mono fun r w' hr => by
  obtain ⟨⟨p, c, e, k⟩, h1, h2⟩ := hr
  exact ⟨⟨p, c, e, hm, KdN.x k hZ⟩, h1, h2⟩
def CkM (F : Nd) (t : Nd) : Prop := ∀ {n0 b : Nat} {S : CSt} {w : World} {v : Value} {N : Nat}, Chk F n0 b S w → Kd w (fun k => k < n0) t.kids v → Bd S N → N + count t ≤ 1000000 →
 Ret PP Wwa #[.pointer (some ⟨b, 0, none⟩), ndV t v] w fun r w' => (∃ u, r = .tuple #[u, .bool ((ckT F t).mem S).1.2] ∧ RetN ((ckT F t).mem S).1.1 w.heap.size u w') ∧ Chk F n0 b ((ckT F t).mem S).2 w' ∧ GT mutR n0 w w'
def CkR (F : Nd) (t : Nd) : Prop := ∀ {n0 b : Nat} {S : CSt} {w : World} {v : Value} {N : Nat}, Chk F n0 b S w → Kd w (fun k => k < n0) t.kids v → Bd S N → N + count t ≤ 1000000 →
 Ret PP Wea #[.pointer (some ⟨b, 0, none⟩), ndV t v] w fun r w' => (∃ u, r = .tuple #[u, .bool ((ckT F t).rcv S).2] ∧ RetN ((ckT F t).rcv S).1 w.heap.size u w') ∧ G w w'
def RowT (w : World) (l : List Ty) (v : Value) : Prop := ∃ p c, v = .slice p l.length c ∧ (0 < l.length → ∃ b o cs fr, p = some ⟨b, o, none⟩ ∧ w.heap[b]? = some (.cells cs Jj fr) ∧ RowAt w b o (l.flatMap tyCells))
def CkL (F : Nd) (t : Nd) : Prop := ∀ {n0 b : Nat} {S : CSt} {w : World} {v : Value} {N : Nat}, Chk F n0 b S w → Kd w (fun k => k < n0) t.kids v → Bd S N → N + count t ≤ 1000000 →
 Ret PP Wxa #[.pointer (some ⟨b, 0, none⟩), ndV t v] w fun r w' => (∃ u l, r = .tuple #[u, l, tyV ((ckT F t).cal S).1.2.2] ∧ RetN ((ckT F t).cal S).1.1 w.heap.size u w' ∧ RowT w' ((ckT F t).cal S).1.2.1 l) ∧ Chk F n0 b ((ckT F t).cal S).2 w' ∧ GT mutR n0 w w'
structure CkOk (F t : Nd) : Prop where
 ex : exprB t = true → CkC F Qp t (ckT F t).ex
 st : stmtB t = true → CkC F Zva t (ckT F t).st
 blk : blockB t = true → CkC F Zoa t (ckT F t).blk
 sts : blockB t = true → CkM' 1000001 F Jt t (ckT F t).sts
 ifs : ifB t = true → CkC F Zka t (ckT F t).ifs
 mem : exprB t = true → t.kind = 28 → CkM F t
 rcv : exprB t = true → CkR F t
 cal : exprB t = true → CkL F t
theorem Zud (F k : Nd) (S : CSt) : Stp (count k) S (condR k (ckT F k) S).2 := by
 unfold condR
 cases decide (k.kind = 9)
 ·exact ((Uba F k).ex S).failu _ _ _
 ·exact (Stp.refl S).mono (Nat.zero_le _)
theorem Utd {F t : Nd} (hx : t.kind ≠ 9 → CkC F Qp t (ckT F t).ex) : CkC F Zua t (condR t (ckT F t)) := by
 intro n0 b S w v N h hk0 hb hcn
 obtain ⟨p, c, rfl, _⟩ := id hk0
 have hlt := h.lt
 have g := GT.refl mutR n0 w
 refine Yp (m := 20) Uya J J [(0, True, _), (1, True, _)] (Za J (Za J (Zj _))) ?_
 refine Ze (Zg (Wq J (Zk J) J ?_))
 intro b3 w3 N3
 have l3 := Xm N3 g.size
 have g := gtg g N3.g
 have h := h.grow (N3.g)
 have hk0 := hk0.grow (N3.g)
 have E := (Wo _).new N3
 refine Yh J Zm J ?_
 intro b4 w4 N4
 have l4 := Xm N4 g.size
 have g := gtg g N4.g
 have h := h.grow (N4.g)
 have hk0 := hk0.grow (N4.g)
 replace E := E.new N4
 refine Zb (kq (Ze (Ze (Zg (Zx Yd J (Yg Zu J (E.g1.at_ J) (Xt J J (Zb (kq (Yv J (fun h1 => ?_) (fun h1 => ?_)))))))))))
 ·replace h1 : t.kind = 9 := of_decide_eq_true h1
  refine Ze (Zg (Yk Zc J J E.g1.row (Ya J (Zo Vg Yo (aqc J aq0) J) (Uw t _ _ _) ?_)))
  rintro v10 w10 ⟨rfl, g10⟩
  refine ⟨fun _ => g10, ?_⟩
  have g := gtg g g10
  replace E := E.grow g10
  have h := h.grow (g10)
  refine Yt Zl J J J E.g0 ?_
  intro wS1 hgS1 _ BS
  have C4 := E.g0
  replace E := E.s0 hgS1 BS
  have g := Zy g hgS1 (by omega)
  have h := h.keep hgS1 C4 rfl (by omega)
  refine Zb (kq (Zr (Xj J (Yy J Zc J (E.g0.row) (Yf)) ?_)))
  have e : condR t (ckT F t) S = (clnT t, S) := by unfold condR; rw [Yfg h1]; rfl
  rw [e]; exact ⟨Xz (t := clnT t) rfl (Yka _ _), h, g⟩
 replace h1 : t.kind ≠ 9 := of_decide_eq_false h1
 refine Yc (kq (Ze (Zg (Zt J (Yk Zc J J E.g1.row (Ya J (Zo Wn Yo (aqc J (aqc J aq0)) J) (CkC.to (hx h1) [b3, b4] h hk0 hb hcn (E.ltm (by simp [selB])) g.size) ?_))))))
 rintro v13 w13 ⟨⟨p13, c13, rfl, q13, k13⟩, h, g13⟩
 refine ⟨nw1, ?_⟩
 have g := g.trans g13
 replace E := E.gt g13 rfl
 refine Yh J Zm J ?_
 intro b5 w5 N5
 have l5 := Xm N5 g.size
 have k13 := k13.new N5
 have g := gtg g N5.g
 have h := h.grow (N5.g)
 replace E := E.new N5
 refine Yt Zl J J J E.g0 ?_
 intro wS2 hgS2 _ BS
 have C5 := E.g0
 replace E := E.s0 hgS2 BS
 have g := Zy g hgS2 (by omega)
 have h := h.keep hgS2 C5 rfl (by omega)
 have k13 := k13.keep hgS2 (by simp)
 refine Zb (kq (Ze (Zg (Zt J (Yk Zc J J E.g0.row (Zx Yw J (Yg Zu J (E.g2.at_ J) (Ya J (Zo Vn Yo (aqc J (aqc J (aqc J (aqc J aq0)))) J) (Yqa ((ckT F t).ex S).1 _ _ 2 t.pos h) ?_))))))))
 rintro v18 w18 ⟨rfl, h, g18⟩
 refine ⟨nw1, ?_⟩
 have g := g.trans g18
 replace E := E.gt g18 rfl
 have k13 := k13.gt g18
 refine Zb (kq (Ze (Zg (Yk Zc J J E.g0.row (Yt Zl J J J E.g1 ?_)))))
 intro wS3 hgS3 _ BS
 have C4 := E.g1
 replace E := E.s1 hgS3 BS
 have g := Zy g hgS3 (by omega)
 have h := h.keep hgS3 C4 rfl (by omega)
 have k13 := k13.keep hgS3 (by simp)
 refine Zb (kq (Zr (Xj J (Yy J Zc J (E.g1.row) (Yf)) ?_)))
 have e : condR t (ckT F t) S = (((ckT F t).ex S).1, wantS ((ckT F t).ex S).1 2 t.pos ((ckT F t).ex S).2) := by unfold condR; rw [Yeg h1]; rfl
 rw [e]; exact ⟨Xz rfl (k13.kdN q13), h, g⟩
theorem Uge {F t : Nd} (hx : CkM' 1000001 F Jt t (ckT F t).sts) : CkC F Zoa t (ckT F t).blk := by
 intro n0 b S w v N h hk0 hb hcn
 have e : (ckT F t).blk S = (((ckT F t).sts (openS S)).1, shutS ((ckT F t).sts (openS S)).2) := by rw [Qw]; rfl
 rw [e]
 obtain ⟨p, c, rfl, _⟩ := id hk0
 have hlt := h.lt
 have hsc := hb.sc
 have ct := Jo t
 have hbo : Bd (openS S) (N + 1) := ⟨by have := hb.vl; show S.vars.length ≤ _; omega, by have := hb.nl; show S.next.length ≤ _; omega, fun k hk => by have := hb.nx k hk; omega, hb.lv, by show S.scope + 1 ≤ _; omega, fun v hv => by have := hb.vs v hv; omega⟩
 have hs := (Uba F t).sts (openS S)
 have hbs := hs.bd _ hbo
 have hs1 : 1 ≤ ((ckT F t).sts (openS S)).2.scope := by rw [hs.scope]; exact Nat.le_add_left 1 _
 have hs2 := hbs.sc
 have hs3 := hbs.vl
 have hs4 : ((ckT F t).sts (openS S)).2.scope ≤ 100000000 := by omega
 have hs5 : ((ckT F t).sts (openS S)).2.vars.length ≤ 100000000 := by omega
 have g := GT.refl mutR n0 w
 refine Yp (m := 14) Ycb J J [(0, True, _), (1, True, _)] (Za J (Za J (Zj _))) ?_
 refine Ze (Zg (Wq J (Zk J) J ?_))
 intro b3 w3 N3
 have l3 := Xm N3 g.size
 have g := gtg g N3.g
 have h := h.grow (N3.g)
 have hk0 := hk0.grow (N3.g)
 have E := (Wo _).new N3
 refine Yh J Zm J ?_
 intro b4 w4 N4
 have l4 := Xm N4 g.size
 have g := gtg g N4.g
 have h := h.grow (N4.g)
 have hk0 := hk0.grow (N4.g)
 replace E := E.new N4
 refine Zb (kq (Ze (Zg (Zt J (Ya J (Zo Vza Yo (aqc J aq0) J) (Usd h (by omega)) ?_)))))
 rintro v7 w7 ⟨rfl, h, g7⟩
 refine ⟨nw1, ?_⟩
 have g := g.trans g7
 replace E := E.gt g7 rfl
 have hk0 := hk0.gt g7 (fun k h => h)
 refine Zb (kq (Ze (Zg (Zt J (Yk Zc J J E.g1.row (Ya J (Zo Qz Yo (aqc J (aqc J aq0)) J) (CkC.to (hx) [b3, b4] h hk0 hbo (by omega) (E.ltm (by simp [selB])) g.size) ?_))))))
 rintro v10 w10 ⟨⟨p10, c10, rfl, q10, k10⟩, h, g10⟩
 refine ⟨nw1, ?_⟩
 have g := g.trans g10
 replace E := E.gt g10 rfl
 refine Yh J Zm J ?_
 intro b5 w5 N5
 have l5 := Xm N5 g.size
 have k10 := k10.new N5
 have g := gtg g N5.g
 have h := h.grow (N5.g)
 replace E := E.new N5
 refine Yt Zl J J J E.g0 ?_
 intro wS1 hgS1 _ BS
 have C5 := E.g0
 replace E := E.s0 hgS1 BS
 have g := Zy g hgS1 (by omega)
 have h := h.keep hgS1 C5 rfl (by omega)
 have k10 := k10.keep hgS1 (by simp)
 refine Zb (kq (Ze (Zg (Zt J (Ya J (Zo Zwa Yo (aqc J aq0) J) (Jqb h hs4 hs1 hs5) ?_)))))
 rintro v12 w12 ⟨rfl, h, g12⟩
 refine ⟨nw1, ?_⟩
 have g := g.trans g12
 replace E := E.gt g12 rfl
 have k10 := k10.gt g12
 refine Zb (kq (Ze (Zg (Yk Zc J J E.g0.row (Yt Zl J J J E.g1 ?_)))))
 intro wS2 hgS2 _ BS
 have C4 := E.g1
 replace E := E.s1 hgS2 BS
 have g := Zy g hgS2 (by omega)
 have h := h.keep hgS2 C4 rfl (by omega)
 have k10 := k10.keep hgS2 (by simp)
 refine Zb (kq (Zr (Xj J (Yy J Zc J (E.g1.row) (Yf)) ?_)))
 exact ⟨Xz rfl (k10.kdN q10), h, g⟩
theorem Jqf {F t : Nd} (K : ∀ i, i < t.kids.length → CkOk F (Zd t i)) (hx : ifB t = true) : CkC F Zka t (ckT F t).ifs := by
 intro n0 b S w v N h hk0 hb hcn
 obtain ⟨hl, he, hb1, hh2⟩ := sh18 hx
 have e : (ckT F t).ifs S = ifR t (fun i => ckT F (Zd t i)) S := by
  rw [Qw]
  show ifR t (ckX F t) S = _
  unfold ifR
  rw [Uo (show 0 < t.kids.length by omega), Uo (show 1 < t.kids.length by omega), Uo (show 2 < t.kids.length by omega)]
 rw [e]
 obtain ⟨p, c, rfl, _⟩ := id hk0
 have hlt := h.lt
 have hc3 := cn3 hl
 have c0 := Jo (Zd t 0)
 have C0 : CkC F Zua (Zd t 0) (condR (Zd t 0) (ckT F (Zd t 0))) := Utd (F := F) (t := Zd t 0) (fun _ => (K 0 (by omega)).ex he)
 have Q1 := K 1 (by omega)
 have Q2 := K 2 (by omega)
 have hbd1 := (Zud F (Zd t 0) S).bd _ hb
 have hbd2 := ((Uba F (Zd t 1)).blk (condR (Zd t 0) (ckT F (Zd t 0)) S).2).bd _ hbd1
 have g := GT.refl mutR n0 w
 refine Yp (m := 55) Jwa J J [(0, True, _), (1, True, _)] (Za J (Za J (Zj _))) ?_
 refine Ze (Zg (Wq J (Zk J) J ?_))
 intro b3 w3 N3
 have l3 := Xm N3 g.size
 have g := gtg g N3.g
 have h := h.grow (N3.g)
 have hk0 := hk0.grow (N3.g)
 have E := (Wo _).new N3
 refine Yh J Zm J ?_
 intro b4 w4 N4
 have l4 := Xm N4 g.size
 have g := gtg g N4.g
 have h := h.grow (N4.g)
 have hk0 := hk0.grow (N4.g)
 replace E := E.new N4
 refine Zb (kq (Ze (Zg (Yk Zc J J E.g1.row (Ya J (Zo Vg Yo (aqc J aq0) J) (Uw t _ _ _) ?_)))))
 rintro v10 w10 ⟨rfl, g10⟩
 refine ⟨fun _ => g10, ?_⟩
 have g := gtg g g10
 replace E := E.grow g10
 have h := h.grow (g10)
 have hk0 := hk0.grow (g10)
 refine Yh J Zm J ?_
 intro b5 w5 N5
 have l5 := Xm N5 g.size
 have g := gtg g N5.g
 have h := h.grow (N5.g)
 have hk0 := hk0.grow (N5.g)
 replace E := E.new N5
 refine Yt Zl J J J E.g0 ?_
 intro wS1 hgS1 _ BS
 have C5 := E.g0
 replace E := E.s0 hgS1 BS
 have g := Zy g hgS1 (by omega)
 have h := h.keep hgS1 C5 rfl (by omega)
 have hk0 := hk0.keep hgS1 (fun k hk _ e => by injection e with e; omega)
 refine Zb (kq (Ze (Zg (Zt J (Zx Zi J (Yg Zh J (E.g2.at_ J) (?_)))))))
 obtain ⟨hpe, p_14, c_14, hcell, hkid⟩ := Xs hk0 (i := 0) (by omega)
 refine Ve Zf J J (by omega) hpe (Yk Zc J J hcell (Ya J (Zo Xua Yo (aqc J (aqc J aq0)) J) (CkC.to (C0) [b3, b4, b5] h hkid hb (by omega) (E.ltm (by simp [selB])) g.size) ?_))
 rintro v16 w16 ⟨⟨p16, c16, rfl, q16, k16⟩, h, g16⟩
 refine ⟨nw1, ?_⟩
 have g := g.trans g16
 replace E := E.gt g16 rfl
 have hk0 := hk0.gt g16 (fun k h => h)
 refine Yh J Zm J ?_
 intro b6 w6 N6
 have l6 := Xm N6 g.size
 have k16 := k16.new N6
 have g := gtg g N6.g
 have h := h.grow (N6.g)
 have hk0 := hk0.grow (N6.g)
 replace E := E.new N6
 refine Yt Zl J J J E.g0 ?_
 intro wS2 hgS2 _ BS
 have C6 := E.g0
 replace E := E.s0 hgS2 BS
 have g := Zy g hgS2 (by omega)
 have h := h.keep hgS2 C6 rfl (by omega)
 have hk0 := hk0.keep hgS2 (fun k hk _ e => by injection e with e; omega)
 have k16 := k16.keep hgS2 (by simp)
 refine Zb (kq (Ze (Zg (Zt J (Zx Zi J (Yg Zh J (E.g3.at_ J) (?_)))))))
 obtain ⟨hpe, p_20, c_20, hcell, hkid⟩ := Xs hk0 (i := 1) (by omega)
 refine Ve Zf J J (by omega) hpe (Yk Zc J J hcell (Ya J (Zo Ju Yo (aqc J (aqc J aq0)) J) (CkC.to (Q1.blk hb1) [b3, b4, b5, b6] h hkid hbd1 (by omega) (E.ltm (by simp [selB])) g.size) ?_))
 rintro v22 w22 ⟨⟨p22, c22, rfl, q22, k22⟩, h, g22⟩
 refine ⟨nw1, ?_⟩
 have g := g.trans g22
 replace E := E.gt g22 rfl
 have hk0 := hk0.gt g22 (fun k h => h)
 have k16 := k16.gt g22
 refine Yh J Zm J ?_
 intro b7 w7 N7
 have l7 := Xm N7 g.size
 have k16 := k16.new N7
 have k22 := k22.new N7
 have g := gtg g N7.g
 have h := h.grow (N7.g)
 have hk0 := hk0.grow (N7.g)
 replace E := E.new N7
 refine Yt Zl J J J E.g0 ?_
 intro wS3 hgS3 _ BS
 have C7 := E.g0
 replace E := E.s0 hgS3 BS
 have g := Zy g hgS3 (by omega)
 have h := h.keep hgS3 C7 rfl (by omega)
 have hk0 := hk0.keep hgS3 (fun k hk _ e => by injection e with e; omega)
 have k16 := k16.keep hgS3 (by simp)
 have k22 := k22.keep hgS3 (by simp)
 refine Zb (kq (Ze (Zg (Zx Zi J (Yg Zh J (E.g4.at_ J) (?_))))))
 obtain ⟨hpe, p_25, c_25, hcell, hkid⟩ := Xs hk0 (i := 2) (by omega)
 refine Ve Zf J J (by omega) hpe (Yk Zc J J hcell (Ya J (Zo Vg Yo (aqc J aq0) J) (Uw (Zd t 2) _ _ _) ?_))
 rintro v27 w27 ⟨rfl, g27⟩
 refine ⟨fun _ => g27, ?_⟩
 have g := gtg g g27
 replace E := E.grow g27
 have h := h.grow (g27)
 have hk0 := hk0.grow (g27)
 have k16 := k16.grow (g27)
 have k22 := k22.grow (g27)
 refine Yh J Zm J ?_
 intro b8 w8 N8
 have l8 := Xm N8 g.size
 have k16 := k16.new N8
 have k22 := k22.new N8
 have g := gtg g N8.g
 have h := h.grow (N8.g)
 have hk0 := hk0.grow (N8.g)
 replace E := E.new N8
 refine Yt Zl J J J E.g0 ?_
 intro wS4 hgS4 _ BS
 have C8 := E.g0
 replace E := E.s0 hgS4 BS
 have g := Zy g hgS4 (by omega)
 have h := h.keep hgS4 C8 rfl (by omega)
 have hk0 := hk0.keep hgS4 (fun k hk _ e => by injection e with e; omega)
 have k16 := k16.keep hgS4 (by simp)
 have k22 := k22.keep hgS4 (by simp)
 refine Zb (kq (Ze (Ze (Zg (Zx Zi J (Yg Zh J (E.g5.at_ J) (?_)))))))
 obtain ⟨hpe, p_30, c_30, hcell, hkid⟩ := Xs hk0 (i := 2) (by omega)
 refine Ve Zf J J (by omega) hpe (Zx Yd J (Yg Zu J (hcell.one (i := 0) J) (Zb (kq (Yu (Ze (Zg (Xt J J (Zp J (Zb (kq (Yv J (fun h1 => ?_) (fun h1 => ?_)))))))))))))
 ·replace h1 : (Zd t 2).kind = 10 := of_decide_eq_true h1
  have hb2 : blockB (Zd t 2) = true := hh2.elim id fun h => h.elim (fun h => absurd (of_decide_eq_true (Bool.and_eq_true_iff.1 h).1) (by omega)) fun h => absurd (Uia h).1 (by omega)
  refine Zg (Zt J (Zx Zi J (Yg Zh J (E.g5.at_ J) (?_))))
  obtain ⟨hpe, p_38, c_38, hcell, hkid⟩ := Xs hk0 (i := 2) (by omega)
  refine Ve Zf J J (by omega) hpe (Yk Zc J J hcell (Ya J (Zo Ju Yo (aqc J (aqc J aq0)) J) (CkC.to (Q2.blk hb2) [b3, b4, b5, b6, b7, b8] h hkid hbd2 (by omega) (E.ltm (by simp [selB])) g.size) ?_))
  rintro v40 w40 ⟨⟨p40, c40, rfl, q40, k40⟩, h, g40⟩
  refine ⟨nw1, ?_⟩
  have g := g.trans g40
  replace E := E.gt g40 rfl
  have k16 := k16.gt g40
  have k22 := k22.gt g40
  refine Yt Zl J J J E.g0 ?_
  intro wS5 hgS5 _ BS
  have C8 := E.g0
  replace E := E.s0 hgS5 BS
  have g := Zy g hgS5 (by omega)
  have h := h.keep hgS5 C8 rfl (by omega)
  have k16 := k16.keep hgS5 (by simp)
  have k22 := k22.keep hgS5 (by simp)
  have k40 := k40.keep hgS5 (by simp)
  refine Zb (kq (Ze (Zg (Yk Zc J J E.g2.row (Yk Zc J J E.g1.row (Yk Zc J J E.g0.row (Yb _ J Zf Zm (pqc J (pqc J (pqc J pq0))) J J ?_)))))))
  intro b52 w52 N52
  have l52 := Xm N52 g.size
  have k16 := k16.new N52
  have k22 := k22.new N52
  have k40 := k40.new N52
  have g := gtg g N52.g
  have h := h.grow (N52.g)
  replace E := E.new N52
  refine Zx Zi J (Vz Xb J J J E.g4 ?_)
  intro wS6 hgS6 _ BS
  have C5 := E.g4
  replace E := E.s4 hgS6 BS
  have g := Zy g hgS6 (by omega)
  have h := h.keep hgS6 C5 rfl (by omega)
  have k16 := k16.keep hgS6 (by simp)
  have k22 := k22.keep hgS6 (by simp)
  have k40 := k40.keep hgS6 (by simp)
  refine Zb (kq (Ze (Zg (Yk Zc J J E.g4.row (Yt Zl J J J E.g5 ?_)))))
  intro wS7 hgS7 _ BS
  have C4 := E.g5
  replace E := E.s5 hgS7 BS
  have g := Zy g hgS7 (by omega)
  have h := h.keep hgS7 C4 rfl (by omega)
  have k16 := k16.keep hgS7 (by simp)
  have k22 := k22.keep hgS7 (by simp)
  have k40 := k40.keep hgS7 (by simp)
  refine Zb (kq (Zr (Xj J (Yy J Zc J (E.g5.row) (Yf)) ?_)))
  unfold ifR; dsimp only; rw [Yfg h1]
  exact ⟨Xz (t := annT t [_, _, _] ty0) rfl (Uk (ks := [_, _, _]) ⟨l52, Ug E.g0⟩ E.g0.row (Uh (k16.kdN q16) (Uh (k22.kdN q22) (Wp (k40.kdN q40)))) (Nat.le_refl _)), h, g⟩
 replace h1 : (Zd t 2).kind ≠ 10 := of_decide_eq_false h1
 refine Ze (Zg (Xt J J (Zp J (Zb (kq (Yv J (fun h2 => ?_) (fun h2 => ?_)))))))
 ·replace h2 : (Zd t 2).kind = 18 := of_decide_eq_true h2
  have hi2 : ifB (Zd t 2) = true := hh2.elim (fun h => absurd (Xza h) (by omega)) fun h => h.elim id fun h => absurd (Uia h).1 (by omega)
  refine Zg (Zt J (Zx Zi J (Yg Zh J (E.g5.at_ J) (?_))))
  obtain ⟨hpe, p_46, c_46, hcell, hkid⟩ := Xs hk0 (i := 2) (by omega)
  refine Ve Zf J J (by omega) hpe (Yk Zc J J hcell (Ya J (Zo Wva Yo (aqc J (aqc J aq0)) J) (CkC.to (Q2.ifs hi2) [b3, b4, b5, b6, b7, b8] h hkid hbd2 (by omega) (E.ltm (by simp [selB])) g.size) ?_))
  rintro v48 w48 ⟨⟨p48, c48, rfl, q48, k48⟩, h, g48⟩
  refine ⟨nw1, ?_⟩
  have g := g.trans g48
  replace E := E.gt g48 rfl
  have k16 := k16.gt g48
  have k22 := k22.gt g48
  refine Yt Zl J J J E.g0 ?_
  intro wS8 hgS8 _ BS
  have C8 := E.g0
  replace E := E.s0 hgS8 BS
  have g := Zy g hgS8 (by omega)
  have h := h.keep hgS8 C8 rfl (by omega)
  have k16 := k16.keep hgS8 (by simp)
  have k22 := k22.keep hgS8 (by simp)
  have k48 := k48.keep hgS8 (by simp)
  refine Zb (kq (Ze (Zg (Yk Zc J J E.g2.row (Yk Zc J J E.g1.row (Yk Zc J J E.g0.row (Yb _ J Zf Zm (pqc J (pqc J (pqc J pq0))) J J ?_)))))))
  intro b52 w52 N52
  have l52 := Xm N52 g.size
  have k16 := k16.new N52
  have k22 := k22.new N52
  have k48 := k48.new N52
  have g := gtg g N52.g
  have h := h.grow (N52.g)
  replace E := E.new N52
  refine Zx Zi J (Vz Xb J J J E.g4 ?_)
  intro wS9 hgS9 _ BS
  have C5 := E.g4
  replace E := E.s4 hgS9 BS
  have g := Zy g hgS9 (by omega)
  have h := h.keep hgS9 C5 rfl (by omega)
  have k16 := k16.keep hgS9 (by simp)
  have k22 := k22.keep hgS9 (by simp)
  have k48 := k48.keep hgS9 (by simp)
  refine Zb (kq (Ze (Zg (Yk Zc J J E.g4.row (Yt Zl J J J E.g5 ?_)))))
  intro wS10 hgS10 _ BS
  have C4 := E.g5
  replace E := E.s5 hgS10 BS
  have g := Zy g hgS10 (by omega)
  have h := h.keep hgS10 C4 rfl (by omega)
  have k16 := k16.keep hgS10 (by simp)
  have k22 := k22.keep hgS10 (by simp)
  have k48 := k48.keep hgS10 (by simp)
  refine Zb (kq (Zr (Xj J (Yy J Zc J (E.g5.row) (Yf)) ?_)))
  unfold ifR; dsimp only; rw [Yeg h1, Yfg h2]
  exact ⟨Xz (t := annT t [_, _, _] ty0) rfl (Uk (ks := [_, _, _]) ⟨l52, Ug E.g0⟩ E.g0.row (Uh (k16.kdN q16) (Uh (k22.kdN q22) (Wp (k48.kdN q48)))) (Nat.le_refl _)), h, g⟩
 replace h2 : (Zd t 2).kind ≠ 18 := of_decide_eq_false h2
 refine Yc (kq (Ze (Zg (Yk Zc J J E.g2.row (Yk Zc J J E.g1.row (Yk Zc J J E.g0.row (Yb _ J Zf Zm (pqc J (pqc J (pqc J pq0))) J J ?_)))))))
 intro b52 w52 N52
 have l52 := Xm N52 g.size
 have k16 := k16.new N52
 have k22 := k22.new N52
 have g := gtg g N52.g
 have h := h.grow (N52.g)
 replace E := E.new N52
 refine Zx Zi J (Vz Xb J J J E.g4 ?_)
 intro wS11 hgS11 _ BS
 have C5 := E.g4
 replace E := E.s4 hgS11 BS
 have g := Zy g hgS11 (by omega)
 have h := h.keep hgS11 C5 rfl (by omega)
 have k16 := k16.keep hgS11 (by simp)
 have k22 := k22.keep hgS11 (by simp)
 refine Zb (kq (Ze (Zg (Yk Zc J J E.g4.row (Yt Zl J J J E.g5 ?_)))))
 intro wS12 hgS12 _ BS
 have C4 := E.g5
 replace E := E.s5 hgS12 BS
 have g := Zy g hgS12 (by omega)
 have h := h.keep hgS12 C4 rfl (by omega)
 have k16 := k16.keep hgS12 (by simp)
 have k22 := k22.keep hgS12 (by simp)
 refine Zb (kq (Zr (Xj J (Yy J Zc J (E.g5.row) (Yf)) ?_)))
 unfold ifR; dsimp only; rw [Yeg h1, Yeg h2]
 exact ⟨Xz (t := annT t [_, _, clnT (Zd t 2)] ty0) rfl (Uk (ks := [_, _, clnT (Zd t 2)]) ⟨l52, Ug E.g0⟩ E.g0.row (Uh (k16.kdN q16) (Uh (k22.kdN q22) (Wp (Yka _ _)))) (Nat.le_refl _)), h, g⟩
set_option maxHeartbeats 1000000
def ckY (F t : Nd) (i : Nat) : Ck := ckT F (Zd t i)
def lvB (a : Nd) : Bool := ((decide (a.kind = 27) && !decide (a.ref = 3)) || decide (a.kind = 28)) || decide (a.kind = 29)
theorem Uud {F t : Nd} (K : ∀ i, i < t.kids.length → CkOk F (Zd t i)) (hk12 : t.kind = 12) (hx : stmtB t = true) : CkC F Xcb t (asgR t (ckY F t)) := by
 intro n0 b S w v N h hk0 hb hcn
 obtain ⟨hl, he, he1⟩ := sh12 hk12 hx
 obtain ⟨p, c, rfl, _⟩ := id hk0
 have hlt := h.lt
 have hc2 := cn2 hl
 have Q0 := K 0 (by omega)
 have Q1 := K 1 (by omega)
 have hbd1 := ((((Uba F (Zd t 0)).ex S).failu (lvB ((ckT F (Zd t 0)).ex S).1) (Zd t 0).pos 7)).bd _ hb
 have g := GT.refl mutR n0 w
 refine Yp (m := 68) Jxa J J [(0, True, _), (1, True, _)] (Za J (Za J (Zj _))) ?_
 refine Ze (Zg (Wq J (Zk J) J ?_))
 intro b3 w3 N3
 have l3 := Xm N3 g.size
 have g := gtg g N3.g
 have h := h.grow (N3.g)
 have hk0 := hk0.grow (N3.g)
 have E := (Wo _).new N3
 refine Yh J Zm J ?_
 intro b4 w4 N4
 have l4 := Xm N4 g.size
 have g := gtg g N4.g
 have h := h.grow (N4.g)
 have hk0 := hk0.grow (N4.g)
 replace E := E.new N4
 refine Zb (kq (Ze (Zg (Yk Zc J J E.g1.row (Ya J (Zo Vg Yo (aqc J aq0) J) (Uw t _ _ _) ?_)))))
 rintro v10 w10 ⟨rfl, g10⟩
 refine ⟨fun _ => g10, ?_⟩
 have g := gtg g g10
 replace E := E.grow g10
 have h := h.grow (g10)
 have hk0 := hk0.grow (g10)
 refine Yh J Zm J ?_
 intro b5 w5 N5
 have l5 := Xm N5 g.size
 have g := gtg g N5.g
 have h := h.grow (N5.g)
 have hk0 := hk0.grow (N5.g)
 replace E := E.new N5
 refine Yt Zl J J J E.g0 ?_
 intro wS1 hgS1 _ BS
 have C5 := E.g0
 replace E := E.s0 hgS1 BS
 have g := Zy g hgS1 (by omega)
 have h := h.keep hgS1 C5 rfl (by omega)
 have hk0 := hk0.keep hgS1 (fun k hk _ e => by injection e with e; omega)
 refine Zb (kq (Ze (Zg (Zt J (Zx Zi J (Yg Zh J (E.g2.at_ J) (?_)))))))
 obtain ⟨hpe, p_14, c_14, hcell, hkid⟩ := Xs hk0 (i := 0) (by omega)
 refine Ve Zf J J (by omega) hpe (Yk Zc J J hcell (Ya J (Zo Wn Yo (aqc J (aqc J aq0)) J) (CkC.to (Q0.ex he) [b3, b4, b5] h hkid hb (by omega) (E.ltm (by simp [selB])) g.size) ?_))
 rintro v16 w16 ⟨⟨p16, c16, rfl, q16, k16⟩, h, g16⟩
 refine ⟨nw1, ?_⟩
 have g := g.trans g16
 replace E := E.gt g16 rfl
 have hk0 := hk0.gt g16 (fun k h => h)
 refine Yh J Zm J ?_
 intro b6 w6 N6
 have l6 := Xm N6 g.size
 have k16 := k16.new N6
 have g := gtg g N6.g
 have h := h.grow (N6.g)
 have hk0 := hk0.grow (N6.g)
 replace E := E.new N6
 refine Yt Zl J J J E.g0 ?_
 intro wS2 hgS2 _ BS
 have C6 := E.g0
 replace E := E.s0 hgS2 BS
 have g := Zy g hgS2 (by omega)
 have h := h.keep hgS2 C6 rfl (by omega)
 have hk0 := hk0.keep hgS2 (fun k hk _ e => by injection e with e; omega)
 have k16 := k16.keep hgS2 (by simp)
 refine Zb (kq (Ze (Zg (Zx Yd J (Yg Zu J (E.g0.at_ J) (Xt J J (Zt J (Zn J J J (fun _ => Zv Uj (Zk J)) (Yj J J J (Ye Zu (Zq J id) (fun _ => E.g0.at_ J)) (Zn J J J (fun _ => Wba (Zq J id) Xy) (Yi J (fun _ => Zz (Zk J) (Zq J id)) (Zp J (Zb (kq (Ze (Ze (Zg (?_))))))))))))))))))
 refine Zt J (Wia J (Zt J (Zn J J J (fun _ => Zv Yd (Zk J)) (Yj J J J (Ye Zu (Zq J id) (fun _ => E.g0.at_ J)) (Zn J J J (fun _ => Wba (Zq J id) Xy) (Yi J (fun _ => Zz (Zk J) (Zq J id)) (Zt J (Zn J J J (fun _ => Zv Yd (Zk J)) (Yj J J J (Ye Zu (Zq J id) (fun _ => E.g0.at_ J)) (Zn J J J (fun _ => Wba (Zq J id) Xy) (Yi J (fun _ => Zz (Zk J) (Zq J id)) (Zb (kq (Yv J (fun h1 => ?_) (fun h1 => ?_)))))))))))))))
 ·have hq : lvB ((ckT F (Zd t 0)).ex S).1 = false := by
   unfold lvB; revert h1
   cases decide (((ckT F (Zd t 0)).ex S).1.kind = 27) <;> cases decide (((ckT F (Zd t 0)).ex S).1.ref = 3) <;> cases decide (((ckT F (Zd t 0)).ex S).1.kind = 28) <;> cases decide (((ckT F (Zd t 0)).ex S).1.kind = 29) <;> decide
  refine Zg (Zt J (Zx Zi J (Yg Zh J (E.g3.at_ J) (?_))))
  obtain ⟨hpe, p_40, c_40, hcell, hkid⟩ := Xs hk0 (i := 0) (by omega)
  refine Ve Zf J J (by omega) hpe (Zx Yw J (Yg Zu J (hcell.one (i := 3) J) (Ya J (Zo Yz Yo (aqc J (aqc J (aqc J aq0))) J) (Vj (Zd t 0).pos 7 h) ?_)))
  rintro v43 w43 ⟨rfl, h, g43⟩
  refine ⟨nw1, ?_⟩
  have g := g.trans g43
  replace E := E.gt g43 rfl
  have hk0 := hk0.gt g43 (fun k h => h)
  have k16 := k16.gt g43
  have hT : failS (Zd t 0).pos 7 ((ckT F (Zd t 0)).ex S).2 = (failU (lvB ((ckT F (Zd t 0)).ex S).1) (Zd t 0).pos 7 ((ckT F (Zd t 0)).ex S).2) := by rw [hq]; rfl
  rw [hT] at h
  refine Zb (kq (Ze (Zg (Zt J (Zx Zi J (Yg Zh J (E.g3.at_ J) (?_)))))))
  obtain ⟨hpe, p_47, c_47, hcell, hkid⟩ := Xs hk0 (i := 1) (by omega)
  refine Ve Zf J J (by omega) hpe (Yk Zc J J hcell (Ya J (Zo Wn Yo (aqc J (aqc J aq0)) J) (CkC.to (Q1.ex he1) [b3, b4, b5, b6] h hkid hbd1 (by omega) (E.ltm (by simp [selB])) g.size) ?_))
  rintro v49 w49 ⟨⟨p49, c49, rfl, q49, k49⟩, h, g49⟩
  refine ⟨nw1, ?_⟩
  have g := g.trans g49
  replace E := E.gt g49 rfl
  have hk0 := hk0.gt g49 (fun k h => h)
  have k16 := k16.gt g49
  refine Yh J Zm J ?_
  intro b8 w8 N8
  have l8 := Xm N8 g.size
  have k16 := k16.new N8
  have k49 := k49.new N8
  have g := gtg g N8.g
  have h := h.grow (N8.g)
  have hk0 := hk0.grow (N8.g)
  replace E := E.new N8
  refine Yt Zl J J J E.g0 ?_
  intro wS3 hgS3 _ BS
  have C8 := E.g0
  replace E := E.s0 hgS3 BS
  have g := Zy g hgS3 (by omega)
  have h := h.keep hgS3 C8 rfl (by omega)
  have hk0 := hk0.keep hgS3 (fun k hk _ e => by injection e with e; omega)
  have k16 := k16.keep hgS3 (by simp)
  have k49 := k49.keep hgS3 (by simp)
  refine Zb (kq (Ze (Ze (Zg (Zx Xa J (Yk Zs J J (E.g1.row.part 5 2) (Zx Xa J (Yk Zs J J (E.g0.row.part 5 2) (Xk J (Zo Jf Yo (aqc J (aqc J aq0)) J) (Xya _ _ _) (fun w54 g54 => ?_))))))))))
  have g := gtg g g54
  replace E := E.grow g54
  have h := h.grow (g54)
  have hk0 := hk0.grow (g54)
  have k16 := k16.grow (g54)
  have k49 := k49.grow (g54)
  refine Wia J (Zb (kq (Yv J (fun h2 => ?_) (fun h2 => ?_))))
  ·have hr : Ub ((ckT F (Zd t 0)).ex S).1.ty ((ckT F (Zd t 1)).ex (failU (lvB ((ckT F (Zd t 0)).ex S).1) (Zd t 0).pos 7 ((ckT F (Zd t 0)).ex S).2)).1.ty = false := by simpa using h2
   refine Zg (Zt J (Zx Zi J (Yg Zh J (E.g4.at_ J) (?_))))
   obtain ⟨hpe, p_59, c_59, hcell, hkid⟩ := Xs hk0 (i := 1) (by omega)
   refine Ve Zf J J (by omega) hpe (Zx Yw J (Yg Zu J (hcell.one (i := 3) J) (Ya J (Zo Yz Yo (aqc J (aqc J (aqc J aq0))) J) (Vj (Zd t 1).pos 7 h) ?_)))
   rintro v62 w62 ⟨rfl, h, g62⟩
   refine ⟨nw1, ?_⟩
   have g := g.trans g62
   replace E := E.gt g62 rfl
   have k16 := k16.gt g62
   have k49 := k49.gt g62
   refine Zb (kq (Ze (Zg (Yk Zc J J E.g1.row (Yk Zc J J E.g0.row (Yb _ J Zf Zm (pqc J (pqc J pq0)) J J ?_))))))
   intro b65 w65 N65
   have l65 := Xm N65 g.size
   have k16 := k16.new N65
   have k49 := k49.new N65
   have g := gtg g N65.g
   have h := h.grow (N65.g)
   replace E := E.new N65
   refine Zx Zi J (Vz Xb J J J E.g3 ?_)
   intro wS4 hgS4 _ BS
   have C5 := E.g3
   replace E := E.s3 hgS4 BS
   have g := Zy g hgS4 (by omega)
   have h := h.keep hgS4 C5 rfl (by omega)
   have k16 := k16.keep hgS4 (by simp)
   have k49 := k49.keep hgS4 (by simp)
   refine Zb (kq (Ze (Zg (Yk Zc J J E.g3.row (Yt Zl J J J E.g4 ?_)))))
   intro wS5 hgS5 _ BS
   have C4 := E.g4
   replace E := E.s4 hgS5 BS
   have g := Zy g hgS5 (by omega)
   have h := h.keep hgS5 C4 rfl (by omega)
   have k16 := k16.keep hgS5 (by simp)
   have k49 := k49.keep hgS5 (by simp)
   refine Zb (kq (Zr (Xj J (Yy J Zc J (E.g4.row) (Yf)) ?_)))
   have e : asgR t (ckY F t) S = (annT t [((ckT F (Zd t 0)).ex S).1, ((ckT F (Zd t 1)).ex (failU (lvB ((ckT F (Zd t 0)).ex S).1) (Zd t 0).pos 7 ((ckT F (Zd t 0)).ex S).2)).1] ty0, failU (Ub ((ckT F (Zd t 0)).ex S).1.ty ((ckT F (Zd t 1)).ex (failU (lvB ((ckT F (Zd t 0)).ex S).1) (Zd t 0).pos 7 ((ckT F (Zd t 0)).ex S).2)).1.ty) (Zd t 1).pos 7 ((ckT F (Zd t 1)).ex (failU (lvB ((ckT F (Zd t 0)).ex S).1) (Zd t 0).pos 7 ((ckT F (Zd t 0)).ex S).2)).2) := rfl
   rw [e, hr]
   exact ⟨Xz (t := annT t [_, _] ty0) rfl (Uk (ks := [_, _]) ⟨l65, Ug E.g0⟩ E.g0.row (Uh (k16.kdN q16) (Wp (k49.kdN q49))) (Nat.le_refl _)), h, g⟩
  have hr : Ub ((ckT F (Zd t 0)).ex S).1.ty ((ckT F (Zd t 1)).ex (failU (lvB ((ckT F (Zd t 0)).ex S).1) (Zd t 0).pos 7 ((ckT F (Zd t 0)).ex S).2)).1.ty = true := by simpa using h2
  refine Yc (kq (Ze (Zg (Yk Zc J J E.g1.row (Yk Zc J J E.g0.row (Yb _ J Zf Zm (pqc J (pqc J pq0)) J J ?_))))))
  intro b65 w65 N65
  have l65 := Xm N65 g.size
  have k16 := k16.new N65
  have k49 := k49.new N65
  have g := gtg g N65.g
  have h := h.grow (N65.g)
  replace E := E.new N65
  refine Zx Zi J (Vz Xb J J J E.g3 ?_)
  intro wS6 hgS6 _ BS
  have C5 := E.g3
  replace E := E.s3 hgS6 BS
  have g := Zy g hgS6 (by omega)
  have h := h.keep hgS6 C5 rfl (by omega)
  have k16 := k16.keep hgS6 (by simp)
  have k49 := k49.keep hgS6 (by simp)
  refine Zb (kq (Ze (Zg (Yk Zc J J E.g3.row (Yt Zl J J J E.g4 ?_)))))
  intro wS7 hgS7 _ BS
  have C4 := E.g4
  replace E := E.s4 hgS7 BS
  have g := Zy g hgS7 (by omega)
  have h := h.keep hgS7 C4 rfl (by omega)
  have k16 := k16.keep hgS7 (by simp)
  have k49 := k49.keep hgS7 (by simp)
  refine Zb (kq (Zr (Xj J (Yy J Zc J (E.g4.row) (Yf)) ?_)))
  have e : asgR t (ckY F t) S = (annT t [((ckT F (Zd t 0)).ex S).1, ((ckT F (Zd t 1)).ex (failU (lvB ((ckT F (Zd t 0)).ex S).1) (Zd t 0).pos 7 ((ckT F (Zd t 0)).ex S).2)).1] ty0, failU (Ub ((ckT F (Zd t 0)).ex S).1.ty ((ckT F (Zd t 1)).ex (failU (lvB ((ckT F (Zd t 0)).ex S).1) (Zd t 0).pos 7 ((ckT F (Zd t 0)).ex S).2)).1.ty) (Zd t 1).pos 7 ((ckT F (Zd t 1)).ex (failU (lvB ((ckT F (Zd t 0)).ex S).1) (Zd t 0).pos 7 ((ckT F (Zd t 0)).ex S).2)).2) := rfl
  rw [e, hr]
  exact ⟨Xz (t := annT t [_, _] ty0) rfl (Uk (ks := [_, _]) ⟨l65, Ug E.g0⟩ E.g0.row (Uh (k16.kdN q16) (Wp (k49.kdN q49))) (Nat.le_refl _)), h, g⟩
 have hq : lvB ((ckT F (Zd t 0)).ex S).1 = true := by
  unfold lvB; revert h1
  cases decide (((ckT F (Zd t 0)).ex S).1.kind = 27) <;> cases decide (((ckT F (Zd t 0)).ex S).1.ref = 3) <;> cases decide (((ckT F (Zd t 0)).ex S).1.kind = 28) <;> cases decide (((ckT F (Zd t 0)).ex S).1.kind = 29) <;> decide
 have hT : ((ckT F (Zd t 0)).ex S).2 = (failU (lvB ((ckT F (Zd t 0)).ex S).1) (Zd t 0).pos 7 ((ckT F (Zd t 0)).ex S).2) := by rw [hq]; rfl
 rw [hT] at h
 refine Yc (kq (Ze (Zg (Zt J (Zx Zi J (Yg Zh J (E.g3.at_ J) (?_)))))))
 obtain ⟨hpe, p_47, c_47, hcell, hkid⟩ := Xs hk0 (i := 1) (by omega)
 refine Ve Zf J J (by omega) hpe (Yk Zc J J hcell (Ya J (Zo Wn Yo (aqc J (aqc J aq0)) J) (CkC.to (Q1.ex he1) [b3, b4, b5, b6] h hkid hbd1 (by omega) (E.ltm (by simp [selB])) g.size) ?_))
 rintro v49 w49 ⟨⟨p49, c49, rfl, q49, k49⟩, h, g49⟩
 refine ⟨nw1, ?_⟩
 have g := g.trans g49
 replace E := E.gt g49 rfl
 have hk0 := hk0.gt g49 (fun k h => h)
 have k16 := k16.gt g49
 refine Yh J Zm J ?_
 intro b8 w8 N8
 have l8 := Xm N8 g.size
 have k16 := k16.new N8
 have k49 := k49.new N8
 have g := gtg g N8.g
 have h := h.grow (N8.g)
 have hk0 := hk0.grow (N8.g)
 replace E := E.new N8
 refine Yt Zl J J J E.g0 ?_
 intro wS8 hgS8 _ BS
 have C8 := E.g0
 replace E := E.s0 hgS8 BS
 have g := Zy g hgS8 (by omega)
 have h := h.keep hgS8 C8 rfl (by omega)
 have hk0 := hk0.keep hgS8 (fun k hk _ e => by injection e with e; omega)
 have k16 := k16.keep hgS8 (by simp)
 have k49 := k49.keep hgS8 (by simp)
 refine Zb (kq (Ze (Ze (Zg (Zx Xa J (Yk Zs J J (E.g1.row.part 5 2) (Zx Xa J (Yk Zs J J (E.g0.row.part 5 2) (Xk J (Zo Jf Yo (aqc J (aqc J aq0)) J) (Xya _ _ _) (fun w54 g54 => ?_))))))))))
 have g := gtg g g54
 replace E := E.grow g54
 have h := h.grow (g54)
 have hk0 := hk0.grow (g54)
 have k16 := k16.grow (g54)
 have k49 := k49.grow (g54)
 refine Wia J (Zb (kq (Yv J (fun h3 => ?_) (fun h3 => ?_))))
 ·have hr : Ub ((ckT F (Zd t 0)).ex S).1.ty ((ckT F (Zd t 1)).ex (failU (lvB ((ckT F (Zd t 0)).ex S).1) (Zd t 0).pos 7 ((ckT F (Zd t 0)).ex S).2)).1.ty = false := by simpa using h3
  refine Zg (Zt J (Zx Zi J (Yg Zh J (E.g4.at_ J) (?_))))
  obtain ⟨hpe, p_59, c_59, hcell, hkid⟩ := Xs hk0 (i := 1) (by omega)
  refine Ve Zf J J (by omega) hpe (Zx Yw J (Yg Zu J (hcell.one (i := 3) J) (Ya J (Zo Yz Yo (aqc J (aqc J (aqc J aq0))) J) (Vj (Zd t 1).pos 7 h) ?_)))
  rintro v62 w62 ⟨rfl, h, g62⟩
  refine ⟨nw1, ?_⟩
  have g := g.trans g62
  replace E := E.gt g62 rfl
  have k16 := k16.gt g62
  have k49 := k49.gt g62
  refine Zb (kq (Ze (Zg (Yk Zc J J E.g1.row (Yk Zc J J E.g0.row (Yb _ J Zf Zm (pqc J (pqc J pq0)) J J ?_))))))
  intro b65 w65 N65
  have l65 := Xm N65 g.size
  have k16 := k16.new N65
  have k49 := k49.new N65
  have g := gtg g N65.g
  have h := h.grow (N65.g)
  replace E := E.new N65
  refine Zx Zi J (Vz Xb J J J E.g3 ?_)
  intro wS9 hgS9 _ BS
  have C5 := E.g3
  replace E := E.s3 hgS9 BS
  have g := Zy g hgS9 (by omega)
  have h := h.keep hgS9 C5 rfl (by omega)
  have k16 := k16.keep hgS9 (by simp)
  have k49 := k49.keep hgS9 (by simp)
  refine Zb (kq (Ze (Zg (Yk Zc J J E.g3.row (Yt Zl J J J E.g4 ?_)))))
  intro wS10 hgS10 _ BS
  have C4 := E.g4
  replace E := E.s4 hgS10 BS
  have g := Zy g hgS10 (by omega)
  have h := h.keep hgS10 C4 rfl (by omega)
  have k16 := k16.keep hgS10 (by simp)
  have k49 := k49.keep hgS10 (by simp)
  refine Zb (kq (Zr (Xj J (Yy J Zc J (E.g4.row) (Yf)) ?_)))
  have e : asgR t (ckY F t) S = (annT t [((ckT F (Zd t 0)).ex S).1, ((ckT F (Zd t 1)).ex (failU (lvB ((ckT F (Zd t 0)).ex S).1) (Zd t 0).pos 7 ((ckT F (Zd t 0)).ex S).2)).1] ty0, failU (Ub ((ckT F (Zd t 0)).ex S).1.ty ((ckT F (Zd t 1)).ex (failU (lvB ((ckT F (Zd t 0)).ex S).1) (Zd t 0).pos 7 ((ckT F (Zd t 0)).ex S).2)).1.ty) (Zd t 1).pos 7 ((ckT F (Zd t 1)).ex (failU (lvB ((ckT F (Zd t 0)).ex S).1) (Zd t 0).pos 7 ((ckT F (Zd t 0)).ex S).2)).2) := rfl
  rw [e, hr]
  exact ⟨Xz (t := annT t [_, _] ty0) rfl (Uk (ks := [_, _]) ⟨l65, Ug E.g0⟩ E.g0.row (Uh (k16.kdN q16) (Wp (k49.kdN q49))) (Nat.le_refl _)), h, g⟩
 have hr : Ub ((ckT F (Zd t 0)).ex S).1.ty ((ckT F (Zd t 1)).ex (failU (lvB ((ckT F (Zd t 0)).ex S).1) (Zd t 0).pos 7 ((ckT F (Zd t 0)).ex S).2)).1.ty = true := by simpa using h3
 refine Yc (kq (Ze (Zg (Yk Zc J J E.g1.row (Yk Zc J J E.g0.row (Yb _ J Zf Zm (pqc J (pqc J pq0)) J J ?_))))))
 intro b65 w65 N65
 have l65 := Xm N65 g.size
 have k16 := k16.new N65
 have k49 := k49.new N65
 have g := gtg g N65.g
 have h := h.grow (N65.g)
 replace E := E.new N65
 refine Zx Zi J (Vz Xb J J J E.g3 ?_)
 intro wS11 hgS11 _ BS
 have C5 := E.g3
 replace E := E.s3 hgS11 BS
 have g := Zy g hgS11 (by omega)
 have h := h.keep hgS11 C5 rfl (by omega)
 have k16 := k16.keep hgS11 (by simp)
 have k49 := k49.keep hgS11 (by simp)
 refine Zb (kq (Ze (Zg (Yk Zc J J E.g3.row (Yt Zl J J J E.g4 ?_)))))
 intro wS12 hgS12 _ BS
 have C4 := E.g4
 replace E := E.s4 hgS12 BS
 have g := Zy g hgS12 (by omega)
 have h := h.keep hgS12 C4 rfl (by omega)
 have k16 := k16.keep hgS12 (by simp)
 have k49 := k49.keep hgS12 (by simp)
 refine Zb (kq (Zr (Xj J (Yy J Zc J (E.g4.row) (Yf)) ?_)))
 have e : asgR t (ckY F t) S = (annT t [((ckT F (Zd t 0)).ex S).1, ((ckT F (Zd t 1)).ex (failU (lvB ((ckT F (Zd t 0)).ex S).1) (Zd t 0).pos 7 ((ckT F (Zd t 0)).ex S).2)).1] ty0, failU (Ub ((ckT F (Zd t 0)).ex S).1.ty ((ckT F (Zd t 1)).ex (failU (lvB ((ckT F (Zd t 0)).ex S).1) (Zd t 0).pos 7 ((ckT F (Zd t 0)).ex S).2)).1.ty) (Zd t 1).pos 7 ((ckT F (Zd t 1)).ex (failU (lvB ((ckT F (Zd t 0)).ex S).1) (Zd t 0).pos 7 ((ckT F (Zd t 0)).ex S).2)).2) := rfl
 rw [e, hr]
 exact ⟨Xz (t := annT t [_, _] ty0) rfl (Uk (ks := [_, _]) ⟨l65, Ug E.g0⟩ E.g0.row (Uh (k16.kdN q16) (Wp (k49.kdN q49))) (Nat.le_refl _)), h, g⟩
theorem Zjf {t : Nd} (hx : exprB t = true) (h : t.kind ≠ 24 ∧ t.kind ≠ 25 ∧ t.kind ≠ 26 ∧ t.kind ≠ 27 ∧ t.kind ≠ 34 ∧ t.kind ≠ 28 ∧ t.kind ≠ 30 ∧ t.kind ≠ 38) : 1 ≤ t.kids.length ∧ exprB (Zd t 0) = true := by
 rcases Zif hx with k | k | k | k | k | k | k | k | k | k | k | k | k | k | k
 ·exact absurd k h.1
 ·exact absurd k h.2.1
 ·exact absurd k h.2.2.1
 ·exact absurd k h.2.2.2.1
 ·exact absurd k h.2.2.2.2.1
 ·exact absurd k h.2.2.2.2.2.1
 ·obtain ⟨q, r, _⟩ := sh29 k hx; exact ⟨by omega, r⟩
 ·exact absurd k h.2.2.2.2.2.2.1
 ·obtain ⟨_, q, r⟩ := sh31 k hx; exact ⟨by omega, r⟩
 ·obtain ⟨q, r⟩ := sh33 k hx; exact ⟨by omega, r⟩
 ·obtain ⟨_, q, r, _⟩ := sh32 k hx; exact ⟨by omega, r⟩
 ·obtain ⟨q, r⟩ := sh35 k hx; exact ⟨by omega, r⟩
 ·obtain ⟨q, r⟩ := sh36 k hx; exact ⟨by omega, r⟩
 ·obtain ⟨q, r⟩ := sh37 k hx; exact ⟨by omega, r⟩
 ·exact absurd k h.2.2.2.2.2.2.2
theorem Jrf {F t : Nd} (K : ∀ i, i < t.kids.length → CkOk F (Zd t i)) (hx : exprB t = true) (hk : t.kind ≠ 24 ∧ t.kind ≠ 25 ∧ t.kind ≠ 26 ∧ t.kind ≠ 27 ∧ t.kind ≠ 34 ∧ t.kind ≠ 28 ∧ t.kind ≠ 30 ∧ t.kind ≠ 38) : CkC F Jia t (opR t (ckY F t)) := by
 intro n0 b S w v N h hk0 hb hcn
 obtain ⟨hl, he⟩ := Zjf hx hk
 obtain ⟨p, c, rfl, _⟩ := id hk0
 have hlt := h.lt
 have hc0 := Xka (t := t) (i := 0) (by omega)
 rw [← Wm (show 0 < t.kids.length by omega)] at hc0
 have Q0 := K 0 (by omega)
 have hbd1 := ((Uba F (Zd t 0)).ex S).bd _ hb
 have g := GT.refl mutR n0 w
 refine Yp (m := 151) Uza J J [(0, True, _), (1, True, _)] (Za J (Za J (Zj _))) ?_
 refine Ze (Zg (Wq J (Zk J) J ?_))
 intro b3 w3 N3
 have l3 := Xm N3 g.size
 have g := gtg g N3.g
 have h := h.grow (N3.g)
 have hk0 := hk0.grow (N3.g)
 have E := (Wo _).new N3
 refine Yh J Zm J ?_
 intro b4 w4 N4
 have l4 := Xm N4 g.size
 have g := gtg g N4.g
 have h := h.grow (N4.g)
 have hk0 := hk0.grow (N4.g)
 replace E := E.new N4
 refine Zb (kq (Ze (Zg (Yk Zc J J E.g1.row (Ya J (Zo Vg Yo (aqc J aq0) J) (Uw t _ _ _) ?_)))))
 rintro v12 w12 ⟨rfl, g12⟩
 refine ⟨fun _ => g12, ?_⟩
 have g := gtg g g12
 replace E := E.grow g12
 have h := h.grow (g12)
 have hk0 := hk0.grow (g12)
 refine Yh J Zm J ?_
 intro b5 w5 N5
 have l5 := Xm N5 g.size
 have g := gtg g N5.g
 have h := h.grow (N5.g)
 have hk0 := hk0.grow (N5.g)
 replace E := E.new N5
 refine Yt Zl J J J E.g0 ?_
 intro wS1 hgS1 _ BS
 have C5 := E.g0
 replace E := E.s0 hgS1 BS
 have g := Zy g hgS1 (by omega)
 have h := h.keep hgS1 C5 rfl (by omega)
 have hk0 := hk0.keep hgS1 (fun k hk _ e => by injection e with e; omega)
 refine Zb (kq (Ze (Zg (Zt J (Zx Zi J (Yg Zh J (E.g2.at_ J) (?_)))))))
 obtain ⟨hpe, p_16, c_16, hcell, hkid⟩ := Xs hk0 (i := 0) (by omega)
 refine Ve Zf J J (by omega) hpe (Yk Zc J J hcell (Ya J (Zo Wn Yo (aqc J (aqc J aq0)) J) (CkC.to (Q0.ex he) [b3, b4, b5] h hkid hb (by omega) (E.ltm (by simp [selB])) g.size) ?_))
 rintro v18 w18 ⟨⟨p18, c18, rfl, q18, k18⟩, h, g18⟩
 refine ⟨nw1, ?_⟩
 have g := g.trans g18
 replace E := E.gt g18 rfl
 have hk0 := hk0.gt g18 (fun k h => h)
 refine Yh J Zm J ?_
 intro b6 w6 N6
 have l6 := Xm N6 g.size
 have k18 := k18.new N6
 have g := gtg g N6.g
 have h := h.grow (N6.g)
 have hk0 := hk0.grow (N6.g)
 replace E := E.new N6
 refine Yt Zl J J J E.g0 ?_
 intro wS2 hgS2 _ BS
 have C6 := E.g0
 replace E := E.s0 hgS2 BS
 have g := Zy g hgS2 (by omega)
 have h := h.keep hgS2 C6 rfl (by omega)
 have hk0 := hk0.keep hgS2 (fun k hk _ e => by injection e with e; omega)
 have k18 := k18.keep hgS2 (by simp)
 refine Zb (kq (Ze (Zg (Yk Zc J J E.g0.row (Yb _ J Zf Zm (pqc J pq0) J J ?_)))))
 intro b20 w20 N20
 have l20 := Xm N20 g.size
 have k18 := k18.new N20
 have g := gtg g N20.g
 have h := h.grow (N20.g)
 have hk0 := hk0.grow (N20.g)
 replace E := E.new N20
 have x20_6 := E.ne 0 1 rfl rfl rfl
 have x20_5 := E.ne 0 2 rfl rfl rfl
 have x20_4 := E.ne 0 3 rfl rfl rfl
 have x20_3 := E.ne 0 4 rfl rfl rfl
 refine Zx Zi J (Vz Xb J J J E.g2 ?_)
 intro wS3 hgS3 _ BS
 have C5 := E.g2
 replace E := E.s2 hgS3 BS
 have g := Zy g hgS3 (by omega)
 have h := h.keep hgS3 C5 rfl (by omega)
 have hk0 := hk0.keep hgS3 (fun k hk _ e => by injection e with e; omega)
 have k18 := k18.keep hgS3 (by simp)
 refine Zb (kq (Ze (Ze (Zg (Zx Yd J (Yg Zu J (E.g4.at_ J) (Zb (kq (Yu (Ze (Zg (Xt J J (Zp J (Zb (kq (Yv J (fun h1 => ?_) (fun h1 => ?_)))))))))))))))))
 ·replace h1 : t.kind = 29 := of_decide_eq_true h1
  obtain ⟨hl2, _, he1⟩ := sh29 h1 hx
  have hc2 := cn2 hl2
  have Q1 := K 1 (by omega)
  refine Ze (Wr [3, 0, 3, 0, 3, 3, 0, 2] [true, true, true, true, true, true, true, true] [0, 0, 0, 4, 12, 28, 60, 127] mix (by kernel_rfl) ?_)
  have g := gtd g
  replace E := E.dr
  have h := h.grow (G.drew _)
  have hk0 := hk0.grow (G.drew _)
  have k18 := k18.grow (G.drew _)
  refine Zt J (Yk Zc J J E.g1.row (Zx Zi J (Yg Zh J (E.g4.at_ J) (?_))))
  obtain ⟨hpe, p_30, c_30, hcell, hkid⟩ := Xs hk0 (i := 0) (by omega)
  refine Ve Zf J J (by omega) hpe (Zx Yw J (Yg Zu J (hcell.one (i := 3) J) (Ya J (Zo Vn Yo (aqc J (aqc J (aqc J (aqc J aq0)))) J) (Yqa ((ckT F (Zd t 0)).ex S).1 _ _ 5 (Zd t 0).pos h) ?_)))
  rintro v33 w33 ⟨rfl, h, g33⟩
  refine ⟨nw1, ?_⟩
  have g := g.trans g33
  replace E := E.gt g33 rfl
  have hk0 := hk0.gt g33 (fun k h => h)
  have k18 := k18.gt g33
  refine Zb (kq (Ze (Zg (Zt J (Zx Zi J (Yg Zh J (E.g4.at_ J) (?_)))))))
  obtain ⟨hpe, p_37, c_37, hcell, hkid⟩ := Xs hk0 (i := 1) (by omega)
  refine Ve Zf J J (by omega) hpe (Yk Zc J J hcell (Ya J (Zo Wn Yo (aqc J (aqc J aq0)) J) (CkC.to (Q1.ex he1) [b3, b4, b5, b6, b20] h hkid ((Vlb _ _ _ _).bd _ hbd1) (by omega) (E.ltm (by simp [selB])) g.size) ?_))
  rintro v39 w39 ⟨⟨p39, c39, rfl, q39, k39⟩, h, g39⟩
  refine ⟨nw1, ?_⟩
  have g := g.trans g39
  replace E := E.gt g39 rfl
  have hk0 := hk0.gt g39 (fun k h => h)
  have k18 := k18.gt g39
  refine Yh J Zm J ?_
  intro b7 w7 N7
  have l7 := Xm N7 g.size
  have k18 := k18.new N7
  have k39 := k39.new N7
  have g := gtg g N7.g
  have h := h.grow (N7.g)
  have hk0 := hk0.grow (N7.g)
  replace E := E.new N7
  have x7_20 := E.ne 0 1 rfl rfl rfl
  refine Yt Zl J J J E.g0 ?_
  intro wS4 hgS4 _ BS
  have C7 := E.g0
  replace E := E.s0 hgS4 BS
  have g := Zy g hgS4 (by omega)
  have h := h.keep hgS4 C7 rfl (by omega)
  have hk0 := hk0.keep hgS4 (fun k hk _ e => by injection e with e; omega)
  have k18 := k18.keep hgS4 (by simp)
  have k39 := k39.keep hgS4 (by simp)
  refine Zb (kq (Ze (Wr [3, 0, 3, 0, 3, 3, 0, 2] [true, true, true, true, true, true, true, true] [0, 0, 0, 4, 12, 28, 60, 127] mix (by kernel_rfl) ?_)))
  have g := gtd g
  replace E := E.dr
  have h := h.grow (G.drew _)
  have hk0 := hk0.grow (G.drew _)
  have k18 := k18.grow (G.drew _)
  have k39 := k39.grow (G.drew _)
  refine Zt J (Yk Zc J J E.g0.row (Zx Zi J (Yg Zh J (E.g5.at_ J) (?_))))
  obtain ⟨hpe, p_44, c_44, hcell, hkid⟩ := Xs hk0 (i := 1) (by omega)
  refine Ve Zf J J (by omega) hpe (Zx Yw J (Yg Zu J (hcell.one (i := 3) J) (Ya J (Zo Vn Yo (aqc J (aqc J (aqc J (aqc J aq0)))) J) (Yqa ((ckT F (Zd t 1)).ex (wantS ((ckT F (Zd t 0)).ex S).1 5 (Zd t 0).pos ((ckT F (Zd t 0)).ex S).2)).1 _ _ 1 (Zd t 1).pos h) ?_)))
  rintro v47 w47 ⟨rfl, h, g47⟩
  refine ⟨nw1, ?_⟩
  have g := g.trans g47
  replace E := E.gt g47 rfl
  have k18 := k18.gt g47
  have k39 := k39.gt g47
  refine Zb (kq (Ze (Zg (?_))))
  have hO20 : OwnN [b3, b4, b5, b6, b7] w.heap.size _ [((ckT F (Zd t 0)).ex S).1] (.slice (some ⟨b20, 0, none⟩) 1 1) := Vqa E.g1 l20 (k18.mono fun k hk _ => ⟨⟨⟨by have := hk.1.1; omega, by have := hk.1.2; simp at this ⊢; omega⟩, hk.2⟩, by have := hk.1.2; simp at this; omega⟩) ⟨⟨l20, by simp; omega⟩, Ug E.g1⟩
  refine Zx Zi J (Yg Zh J (E.g3.at_ J) (Yk Zc J J E.g0.row (Yb _ J Zf Zm (pqc J pq0) J J ?_)))
  intro b51 w51 N51
  have l51 := Xm N51 g.size
  have k39 := k39.new N51
  have g := gtg g N51.g
  have h := h.grow (N51.g)
  have hO20 := hO20.grow (N51.g)
  replace E := E.new N51
  have x51_20 := E.ne 0 2 rfl rfl rfl
  have hOo := hO20
  refine Ur J Zf Zm J (Zk J) hO20 (Zk J) J E.g0.row (Zra k39 q39 (by intro j hj; simp at hj ⊢; omega) (fun j hj => by obtain rfl : b20 = j := (by injection hj); simp)) (by simp) (by have := g.size; omega) ⟨by have := g.size; omega, by have q3 := E.g6.lt; have q4 := E.g5.lt; have q5 := E.g4.lt; have q6 := E.g3.lt; have q7 := E.g1.lt; simp; omega⟩ ?_
  intro a52 c52 w52 hO20 hg52
  replace E := E.sel [false, true, false, true, true, true, true]
  replace E := E.keepX hg52 hOo.ne (by simp [selB])
  have g := Qj g hg52 (fun k hk => hOo.ge k hk)
  have h := h.keepO hg52 hOo (by omega)
  refine Zx Zi J (Vz Xb J J J E.g2 ?_)
  intro wS5 hgS5 _ BS
  have C5 := E.g2
  replace E := E.s2 hgS5 BS
  have g := Zy g hgS5 (by omega)
  have h := h.keep hgS5 C5 rfl (by omega)
  first | have hO20 := hO20.keept hgS5 C5 rfl | have hO20 := hO20.keep hgS5 (by simp)
  refine Zb (kq (Zg (Zx Xa J (Zx Ws J (Vz Vb J J J E.g2 ?_)))))
  intro wS6 hgS6 _ BS
  have C5 := E.g2
  replace E := E.s2 hgS6 BS
  have g := Zy g hgS6 (by omega)
  have h := h.keep hgS6 C5 rfl (by omega)
  first | have hO20 := hO20.keept hgS6 C5 rfl | have hO20 := hO20.keep hgS6 (by simp)
  refine Zb (kq (Ze (Zg (Yk Zc J J E.g2.row (Yt Zl J J J E.g3 ?_)))))
  intro wS7 hgS7 _ BS
  have C4 := E.g3
  replace E := E.s3 hgS7 BS
  have g := Zy g hgS7 (by omega)
  have h := h.keep hgS7 C4 rfl (by omega)
  first | have hO20 := hO20.keept hgS7 C4 rfl | have hO20 := hO20.keep hgS7 (by simp)
  refine Zb (kq (Zr (Xj J (Yy J Zc J (E.g3.row) (Yf)) ?_)))
  have e : opR t (ckY F t) S = (annT t [((ckT F (Zd t 0)).ex S).1, ((ckT F (Zd t 1)).ex (wantS ((ckT F (Zd t 0)).ex S).1 5 (Zd t 0).pos ((ckT F (Zd t 0)).ex S).2)).1] tInt, wantS ((ckT F (Zd t 1)).ex (wantS ((ckT F (Zd t 0)).ex S).1 5 (Zd t 0).pos ((ckT F (Zd t 0)).ex S).2)).1 1 (Zd t 1).pos ((ckT F (Zd t 1)).ex (wantS ((ckT F (Zd t 0)).ex S).1 5 (Zd t 0).pos ((ckT F (Zd t 0)).ex S).2)).2) := by unfold opR; dsimp only; rw [Yfg h1]; rfl
  rw [e]; exact ⟨Xz (t := annT t [_, _] tInt) rfl hO20.kd, h, g⟩
 replace h1 : t.kind ≠ 29 := of_decide_eq_false h1
 refine Ze (Zg (Xt J J (Zp J (Zb (kq (Yv J (fun h2 => ?_) (fun h2 => ?_)))))))
 ·replace h2 : t.kind = 31 := of_decide_eq_true h2
  refine Ze (Zg (Zx Xa J (Zx Ws J (Vz Vb J J J E.g2 ?_))))
  intro wS8 hgS8 _ BS
  have C5 := E.g2
  replace E := E.s2 hgS8 BS
  have g := Zy g hgS8 (by omega)
  have h := h.keep hgS8 C5 rfl (by omega)
  have k18 := k18.keep hgS8 (by simp)
  refine Zb (kq (Ze (Ze (Zg (Zx Ym J (Yg Yr J (E.g4.at_ J) (Wi J J (Zb (kq (Yv J (fun h3 => ?_) (fun h3 => ?_)))))))))))
  ·(try simp only [Xq] at h3)
   refine Zg (Zx Xa J (Zx Ws J (Vz Vb J J J E.g2 ?_)))
   intro wS9 hgS9 _ BS
   have C5 := E.g2
   replace E := E.s2 hgS9 BS
   have g := Zy g hgS9 (by omega)
   have h := h.keep hgS9 C5 rfl (by omega)
   have k18 := k18.keep hgS9 (by simp)
   refine Zb (kq (Zg (Zt J (Yk Zc J J E.g1.row (Zx Xa J (Zx Ws J (Yg Zu J (E.g2.at_ J) (Zx Yw J (Yg Zu J (E.g4.at_ J) (Ya J (Zo Vn Yo (aqc J (aqc J (aqc J (aqc J aq0)))) J) (Yqa ((ckT F (Zd t 0)).ex S).1 _ _ _ t.pos h) ?_))))))))))
   rintro v72 w72 ⟨rfl, h, g72⟩
   refine ⟨nw1, ?_⟩
   have g := g.trans g72
   replace E := E.gt g72 rfl
   have k18 := k18.gt g72
   refine Zb (kq (Ze (Zg (Yk Zc J J E.g2.row (Yt Zl J J J E.g3 ?_)))))
   intro wS10 hgS10 _ BS
   have C4 := E.g3
   replace E := E.s3 hgS10 BS
   have g := Zy g hgS10 (by omega)
   have h := h.keep hgS10 C4 rfl (by omega)
   have k18 := k18.keep hgS10 (by simp)
   refine Zb (kq (Zr (Xj J (Yy J Zc J (E.g3.row) (Yf)) ?_)))
   have e : opR t (ckY F t) S = (annT t [((ckT F (Zd t 0)).ex S).1] tBool, wantS ((ckT F (Zd t 0)).ex S).1 2 t.pos ((ckT F (Zd t 0)).ex S).2) := by unfold opR; dsimp only; rw [Yeg h1, Yfg h2]; unfold unTy; rw [h3]; rfl
   rw [e]; exact ⟨Xz (t := annT t [_] _) rfl (Uk (ks := [_]) ⟨l20, Ug E.g0⟩ E.g0.row (Wp (k18.kdN q18)) (Nat.le_refl _)), h, g⟩
  refine Yc (kq (Zg (Zt J (Yk Zc J J E.g1.row (Zx Xa J (Zx Ws J (Yg Zu J (E.g2.at_ J) (Zx Yw J (Yg Zu J (E.g4.at_ J) (Ya J (Zo Vn Yo (aqc J (aqc J (aqc J (aqc J aq0)))) J) (Yqa ((ckT F (Zd t 0)).ex S).1 _ _ _ t.pos h) ?_))))))))))
  rintro v72 w72 ⟨rfl, h, g72⟩
  refine ⟨nw1, ?_⟩
  have g := g.trans g72
  replace E := E.gt g72 rfl
  have k18 := k18.gt g72
  refine Zb (kq (Ze (Zg (Yk Zc J J E.g2.row (Yt Zl J J J E.g3 ?_)))))
  intro wS11 hgS11 _ BS
  have C4 := E.g3
  replace E := E.s3 hgS11 BS
  have g := Zy g hgS11 (by omega)
  have h := h.keep hgS11 C4 rfl (by omega)
  have k18 := k18.keep hgS11 (by simp)
  refine Zb (kq (Zr (Xj J (Yy J Zc J (E.g3.row) (Yf)) ?_)))
  have e : opR t (ckY F t) S = (annT t [((ckT F (Zd t 0)).ex S).1] tInt, wantS ((ckT F (Zd t 0)).ex S).1 1 t.pos ((ckT F (Zd t 0)).ex S).2) := by unfold opR; dsimp only; rw [Yeg h1, Yfg h2]; unfold unTy; rw [h3]; rfl
  rw [e]; exact ⟨Xz (t := annT t [_] _) rfl (Uk (ks := [_]) ⟨l20, Ug E.g0⟩ E.g0.row (Wp (k18.kdN q18)) (Nat.le_refl _)), h, g⟩
 replace h2 : t.kind ≠ 31 := of_decide_eq_false h2
 refine Ze (Zg (Xt J J (Zp J (Zb (kq (Yv J (fun h4 => ?_) (fun h4 => ?_)))))))
 ·replace h4 : t.kind = 32 := of_decide_eq_true h4
  obtain ⟨_, hl2, _, he1⟩ := sh32 h4 hx
  have hc2 := cn2 hl2
  have Q1 := K 1 (by omega)
  refine Ze (Zg (Zt J (Zx Zi J (Yg Zh J (E.g4.at_ J) (?_)))))
  obtain ⟨hpe, p_78, c_78, hcell, hkid⟩ := Xs hk0 (i := 1) (by omega)
  refine Ve Zf J J (by omega) hpe (Yk Zc J J hcell (Ya J (Zo Wn Yo (aqc J (aqc J aq0)) J) (CkC.to (Q1.ex he1) [b3, b4, b5, b6, b20] h hkid hbd1 (by omega) (E.ltm (by simp [selB])) g.size) ?_))
  rintro v80 w80 ⟨⟨p80, c80, rfl, q80, k80⟩, h, g80⟩
  refine ⟨nw1, ?_⟩
  have g := g.trans g80
  replace E := E.gt g80 rfl
  have k18 := k18.gt g80
  refine Yh J Zm J ?_
  intro b8 w8 N8
  have l8 := Xm N8 g.size
  have k18 := k18.new N8
  have k80 := k80.new N8
  have g := gtg g N8.g
  have h := h.grow (N8.g)
  replace E := E.new N8
  have x8_20 := E.ne 0 1 rfl rfl rfl
  refine Yt Zl J J J E.g0 ?_
  intro wS12 hgS12 _ BS
  have C8 := E.g0
  replace E := E.s0 hgS12 BS
  have g := Zy g hgS12 (by omega)
  have h := h.keep hgS12 C8 rfl (by omega)
  have k18 := k18.keep hgS12 (by simp)
  have k80 := k80.keep hgS12 (by simp)
  refine Zb (kq (Ze (Zg (?_))))
  have hO20 : OwnN [b3, b4, b5, b6, b8] w.heap.size _ [((ckT F (Zd t 0)).ex S).1] (.slice (some ⟨b20, 0, none⟩) 1 1) := Vqa E.g1 l20 (k18.mono fun k hk _ => ⟨⟨⟨by have := hk.1.1; omega, by have := hk.1.2; simp at this ⊢; omega⟩, hk.2⟩, by have := hk.1.2; simp at this; omega⟩) ⟨⟨l20, by simp; omega⟩, Ug E.g1⟩
  refine Zx Zi J (Yg Zh J (E.g3.at_ J) (Yk Zc J J E.g0.row (Yb _ J Zf Zm (pqc J pq0) J J ?_)))
  intro b84 w84 N84
  have l84 := Xm N84 g.size
  have k80 := k80.new N84
  have g := gtg g N84.g
  have h := h.grow (N84.g)
  have hO20 := hO20.grow (N84.g)
  replace E := E.new N84
  have x84_20 := E.ne 0 2 rfl rfl rfl
  have hOo := hO20
  refine Ur J Zf Zm J (Zk J) hO20 (Zk J) J E.g0.row (Zra k80 q80 (by intro j hj; simp at hj ⊢; omega) (fun j hj => by obtain rfl : b20 = j := (by injection hj); simp)) (by simp) (by have := g.size; omega) ⟨by have := g.size; omega, by have q3 := E.g6.lt; have q4 := E.g5.lt; have q5 := E.g4.lt; have q6 := E.g3.lt; have q8 := E.g1.lt; simp; omega⟩ ?_
  intro a85 c85 w85 hO20 hg85
  replace E := E.sel [false, true, false, true, true, true, true]
  replace E := E.keepX hg85 hOo.ne (by simp [selB])
  have g := Qj g hg85 (fun k hk => hOo.ge k hk)
  have h := h.keepO hg85 hOo (by omega)
  refine Zx Zi J (Vz Xb J J J E.g2 ?_)
  intro wS13 hgS13 _ BS
  have C5 := E.g2
  replace E := E.s2 hgS13 BS
  have g := Zy g hgS13 (by omega)
  have h := h.keep hgS13 C5 rfl (by omega)
  first | have hO20 := hO20.keept hgS13 C5 rfl | have hO20 := hO20.keep hgS13 (by simp)
  refine Zb (kq (Ze (Zg (Zx Ym J (Yg Yr J (E.g4.at_ J) (Zx Xa J (Yk Zs J J (E.g1.row.part 5 2) (Zx Xa J (Yk Zs J J (E.g0.row.part 5 2) (Xk J (Zo Jkc Yo (aqc J (aqc J (aqc J aq0))) J) (Wpf _ _ _ _) (fun w94 g94 => ?_)))))))))))
  have g := gtg g g94
  replace E := E.grow g94
  have h := h.grow (g94)
  have hO20 := hO20.grow (g94)
  refine Zt J (Qc J J (Qc J J (Yh J Yq J ?_)))
  intro b9 w9 N9
  have l9 := Xm N9 g.size
  have g := gtg g N9.g
  have h := h.grow (N9.g)
  have hO20 := hO20.grow (N9.g)
  replace E := E.new N9
  refine Yt Yn J J J E.g0 ?_
  intro wS14 hgS14 _ BS
  have C9 := E.g0
  replace E := E.s0 hgS14 BS
  have g := Zy g hgS14 (by omega)
  have h := h.keep hgS14 C9 rfl (by omega)
  first | have hO20 := hO20.keept hgS14 C9 rfl | have hO20 := hO20.keep hgS14 (by simp)
  refine Zp J (Zb (kq (Ze (Ze (Zg (Zt J (Wia J (Zb (kq (Yv J (fun h5 => ?_) (fun h5 => ?_)))))))))))
  ·(try simp only [Xq] at h5)
   refine Zg (Zt J (Zx Yw J (Yg Zu J (E.g5.at_ J) (Ya J (Zo Yz Yo (aqc J (aqc J (aqc J aq0))) J) (Vj t.pos 7 h) ?_))))
   rintro v102 w102 ⟨rfl, h, g102⟩
   refine ⟨nw1, ?_⟩
   have g := g.trans g102
   replace E := E.gt g102 rfl
   have hO20 := hO20.gt g102 rfl
   refine Zb (kq (Zg (Yk Zs J J E.g0.row (Zx Xa J (Ww J Yn (Zk J) (Zk J) J J E.g3 J J ?_)))))
   intro wS15 hgS15 _ BS
   have C5 := E.g3
   replace E := E.s3 hgS15 BS
   have g := Zy g hgS15 (by omega)
   have h := h.keep hgS15 C5 rfl (by omega)
   first | have hO20 := hO20.keept hgS15 C5 rfl | have hO20 := hO20.keep hgS15 (by simp)
   refine Zb (kq (Ze (Zg (Yk Zc J J E.g3.row (Yt Zl J J J E.g4 ?_)))))
   intro wS16 hgS16 _ BS
   have C4 := E.g4
   replace E := E.s4 hgS16 BS
   have g := Zy g hgS16 (by omega)
   have h := h.keep hgS16 C4 rfl (by omega)
   first | have hO20 := hO20.keept hgS16 C4 rfl | have hO20 := hO20.keep hgS16 (by simp)
   refine Zb (kq (Zr (Xj J (Yy J Zc J (E.g4.row) (Yf)) ?_)))
   have e : opR t (ckY F t) S = (annT t [((ckT F (Zd t 0)).ex S).1, ((ckT F (Zd t 1)).ex ((ckT F (Zd t 0)).ex S).2).1] (binT t.text ((ckT F (Zd t 0)).ex S).1.ty ((ckT F (Zd t 1)).ex ((ckT F (Zd t 0)).ex S).2).1.ty).1, failU (binT t.text ((ckT F (Zd t 0)).ex S).1.ty ((ckT F (Zd t 1)).ex ((ckT F (Zd t 0)).ex S).2).1.ty).2 t.pos 7 ((ckT F (Zd t 1)).ex ((ckT F (Zd t 0)).ex S).2).2) := by unfold opR; dsimp only; rw [Yeg h1, Yeg h2, Yfg h4]; rfl
   rw [e]; have hr : (binT t.text ((ckT F (Zd t 0)).ex S).1.ty ((ckT F (Zd t 1)).ex ((ckT F (Zd t 0)).ex S).2).1.ty).2 = false := by simpa using h5
   rw [hr]; exact ⟨Xz (t := annT t [_, _] _) rfl hO20.kd, h, g⟩
  refine Yc (kq (Zg (Yk Zs J J E.g0.row (Zx Xa J (Ww J Yn (Zk J) (Zk J) J J E.g3 J J ?_)))))
  intro wS17 hgS17 _ BS
  have C5 := E.g3
  replace E := E.s3 hgS17 BS
  have g := Zy g hgS17 (by omega)
  have h := h.keep hgS17 C5 rfl (by omega)
  first | have hO20 := hO20.keept hgS17 C5 rfl | have hO20 := hO20.keep hgS17 (by simp)
  refine Zb (kq (Ze (Zg (Yk Zc J J E.g3.row (Yt Zl J J J E.g4 ?_)))))
  intro wS18 hgS18 _ BS
  have C4 := E.g4
  replace E := E.s4 hgS18 BS
  have g := Zy g hgS18 (by omega)
  have h := h.keep hgS18 C4 rfl (by omega)
  first | have hO20 := hO20.keept hgS18 C4 rfl | have hO20 := hO20.keep hgS18 (by simp)
  refine Zb (kq (Zr (Xj J (Yy J Zc J (E.g4.row) (Yf)) ?_)))
  have e : opR t (ckY F t) S = (annT t [((ckT F (Zd t 0)).ex S).1, ((ckT F (Zd t 1)).ex ((ckT F (Zd t 0)).ex S).2).1] (binT t.text ((ckT F (Zd t 0)).ex S).1.ty ((ckT F (Zd t 1)).ex ((ckT F (Zd t 0)).ex S).2).1.ty).1, failU (binT t.text ((ckT F (Zd t 0)).ex S).1.ty ((ckT F (Zd t 1)).ex ((ckT F (Zd t 0)).ex S).2).1.ty).2 t.pos 7 ((ckT F (Zd t 1)).ex ((ckT F (Zd t 0)).ex S).2).2) := by unfold opR; dsimp only; rw [Yeg h1, Yeg h2, Yfg h4]; rfl
  rw [e]; have hr : (binT t.text ((ckT F (Zd t 0)).ex S).1.ty ((ckT F (Zd t 1)).ex ((ckT F (Zd t 0)).ex S).2).1.ty).2 = true := by simpa using h5
  rw [hr]; exact ⟨Xz (t := annT t [_, _] _) rfl hO20.kd, h, g⟩
 replace h4 : t.kind ≠ 32 := of_decide_eq_false h4
 refine Ze (Zg (Xt J J (Zp J (Zb (kq (Yv J (fun h6 => ?_) (fun h6 => ?_)))))))
 ·(try simp only [Xq] at h6)
  refine Ze (Zg (Zt J (Yk Zc J J E.g1.row (Zx Yw J (Yg Zu J (E.g4.at_ J) (Ya J (Zo Vn Yo (aqc J (aqc J (aqc J (aqc J aq0)))) J) (Yqa ((ckT F (Zd t 0)).ex S).1 _ _ 6 t.pos h) ?_))))))
  rintro v111 w111 ⟨rfl, h, g111⟩
  refine ⟨nw1, ?_⟩
  have g := g.trans g111
  replace E := E.gt g111 rfl
  have k18 := k18.gt g111
  refine Zb (kq (Zg (Zx Xa J (Zx Ws J (Vz Vb J J J E.g2 ?_)))))
  intro wS19 hgS19 _ BS
  have C5 := E.g2
  replace E := E.s2 hgS19 BS
  have g := Zy g hgS19 (by omega)
  have h := h.keep hgS19 C5 rfl (by omega)
  have k18 := k18.keep hgS19 (by simp)
  refine Zb (kq (Ze (Zg (Yk Zc J J E.g2.row (Yt Zl J J J E.g3 ?_)))))
  intro wS20 hgS20 _ BS
  have C4 := E.g3
  replace E := E.s3 hgS20 BS
  have g := Zy g hgS20 (by omega)
  have h := h.keep hgS20 C4 rfl (by omega)
  have k18 := k18.keep hgS20 (by simp)
  refine Zb (kq (Zr (Xj J (Yy J Zc J (E.g3.row) (Yf)) ?_)))
  have e : opR t (ckY F t) S = (annT t [((ckT F (Zd t 0)).ex S).1] tInt, wantS ((ckT F (Zd t 0)).ex S).1 6 t.pos ((ckT F (Zd t 0)).ex S).2) := by unfold opR; dsimp only; rw [Yeg h1, Yeg h2, Yeg h4, h6]; rfl
  rw [e]; exact ⟨Xz (t := annT t [_] _) rfl (Uk (ks := [_]) ⟨l20, Ug E.g0⟩ E.g0.row (Wp (k18.kdN q18)) (Nat.le_refl _)), h, g⟩
 refine Ze (Zg (Xt J J (Zp J (Zb (kq (Yv J (fun h7 => ?_) (fun h7 => ?_)))))))
 ·(try simp only [Xq] at h7)
  refine Ze (Wr [3, 0, 3, 0, 3, 3, 0, 2] [true, true, true, true, true, true, true, true] [0, 0, 0, 4, 12, 28, 60, 127] mix (by kernel_rfl) ?_)
  have g := gtd g
  replace E := E.dr
  have h := h.grow (G.drew _)
  have hk0 := hk0.grow (G.drew _)
  have k18 := k18.grow (G.drew _)
  refine Zt J (Yk Zc J J E.g1.row (Zx Zi J (Yg Zh J (E.g4.at_ J) (?_))))
  obtain ⟨hpe, p_120, c_120, hcell, hkid⟩ := Xs hk0 (i := 0) (by omega)
  refine Ve Zf J J (by omega) hpe (Zx Yw J (Yg Zu J (hcell.one (i := 3) J) (Ya J (Zo Vn Yo (aqc J (aqc J (aqc J (aqc J aq0)))) J) (Yqa ((ckT F (Zd t 0)).ex S).1 _ _ 5 (Zd t 0).pos h) ?_)))
  rintro v123 w123 ⟨rfl, h, g123⟩
  refine ⟨nw1, ?_⟩
  have g := g.trans g123
  replace E := E.gt g123 rfl
  have k18 := k18.gt g123
  refine Zb (kq (Zg (Zx Xa J (Zx Ws J (Vz Vb J J J E.g2 ?_)))))
  intro wS21 hgS21 _ BS
  have C5 := E.g2
  replace E := E.s2 hgS21 BS
  have g := Zy g hgS21 (by omega)
  have h := h.keep hgS21 C5 rfl (by omega)
  have k18 := k18.keep hgS21 (by simp)
  refine Zb (kq (Ze (Zg (Yk Zc J J E.g2.row (Yt Zl J J J E.g3 ?_)))))
  intro wS22 hgS22 _ BS
  have C4 := E.g3
  replace E := E.s3 hgS22 BS
  have g := Zy g hgS22 (by omega)
  have h := h.keep hgS22 C4 rfl (by omega)
  have k18 := k18.keep hgS22 (by simp)
  refine Zb (kq (Zr (Xj J (Yy J Zc J (E.g3.row) (Yf)) ?_)))
  have e : opR t (ckY F t) S = (annT t [((ckT F (Zd t 0)).ex S).1] tInt, wantS ((ckT F (Zd t 0)).ex S).1 5 (Zd t 0).pos ((ckT F (Zd t 0)).ex S).2) := by unfold opR; dsimp only; rw [Yeg h1, Yeg h2, Yeg h4, h6, h7]; rfl
  rw [e]; exact ⟨Xz (t := annT t [_] _) rfl (Uk (ks := [_]) ⟨l20, Ug E.g0⟩ E.g0.row (Wp (k18.kdN q18)) (Nat.le_refl _)), h, g⟩
 refine Ze (Zg (Xt J J (Zp J (Zb (kq (Yv J (fun h8 => ?_) (fun h8 => ?_)))))))
 ·(try simp only [Xq] at h8)
  refine Ze (Wr [3, 0, 3, 0, 3, 3, 0, 2] [true, true, true, true, true, true, true, true] [0, 0, 0, 4, 12, 28, 60, 127] mix (by kernel_rfl) ?_)
  have g := gtd g
  replace E := E.dr
  have h := h.grow (G.drew _)
  have hk0 := hk0.grow (G.drew _)
  have k18 := k18.grow (G.drew _)
  refine Zt J (Yk Zc J J E.g1.row (Zx Zi J (Yg Zh J (E.g4.at_ J) (?_))))
  obtain ⟨hpe, p_132, c_132, hcell, hkid⟩ := Xs hk0 (i := 0) (by omega)
  refine Ve Zf J J (by omega) hpe (Zx Yw J (Yg Zu J (hcell.one (i := 3) J) (Ya J (Zo Vn Yo (aqc J (aqc J (aqc J (aqc J aq0)))) J) (Yqa ((ckT F (Zd t 0)).ex S).1 _ _ 1 (Zd t 0).pos h) ?_)))
  rintro v135 w135 ⟨rfl, h, g135⟩
  refine ⟨nw1, ?_⟩
  have g := g.trans g135
  replace E := E.gt g135 rfl
  have k18 := k18.gt g135
  refine Zb (kq (Zg (Zx Xa J (Zx Ws J (Vz Vb J J J E.g2 ?_)))))
  intro wS23 hgS23 _ BS
  have C5 := E.g2
  replace E := E.s2 hgS23 BS
  have g := Zy g hgS23 (by omega)
  have h := h.keep hgS23 C5 rfl (by omega)
  have k18 := k18.keep hgS23 (by simp)
  refine Zb (kq (Ze (Zg (Yk Zc J J E.g2.row (Yt Zl J J J E.g3 ?_)))))
  intro wS24 hgS24 _ BS
  have C4 := E.g3
  replace E := E.s3 hgS24 BS
  have g := Zy g hgS24 (by omega)
  have h := h.keep hgS24 C4 rfl (by omega)
  have k18 := k18.keep hgS24 (by simp)
  refine Zb (kq (Zr (Xj J (Yy J Zc J (E.g3.row) (Yf)) ?_)))
  have e : opR t (ckY F t) S = (annT t [((ckT F (Zd t 0)).ex S).1] ⟨5, []⟩, wantS ((ckT F (Zd t 0)).ex S).1 1 (Zd t 0).pos ((ckT F (Zd t 0)).ex S).2) := by unfold opR; dsimp only; rw [Yeg h1, Yeg h2, Yeg h4, h6, h7, h8]; rfl
  rw [e]; exact ⟨Xz (t := annT t [_] _) rfl (Uk (ks := [_]) ⟨l20, Ug E.g0⟩ E.g0.row (Wp (k18.kdN q18)) (Nat.le_refl _)), h, g⟩
 refine Ze (Zg (Xt J J (Zp J (Zb (kq (Yv J (fun h9 => ?_) (fun h9 => ?_)))))))
 ·(try simp only [Xq] at h9)
  refine Ze (Wr [3, 0, 3, 0, 3, 3, 0, 2] [true, true, true, true, true, true, true, true] [0, 0, 0, 4, 12, 28, 60, 127] mix (by kernel_rfl) ?_)
  have g := gtd g
  replace E := E.dr
  have h := h.grow (G.drew _)
  have hk0 := hk0.grow (G.drew _)
  have k18 := k18.grow (G.drew _)
  refine Zt J (Yk Zc J J E.g1.row (Zx Zi J (Yg Zh J (E.g4.at_ J) (?_))))
  obtain ⟨hpe, p_144, c_144, hcell, hkid⟩ := Xs hk0 (i := 0) (by omega)
  refine Ve Zf J J (by omega) hpe (Zx Yw J (Yg Zu J (hcell.one (i := 3) J) (Ya J (Zo Vn Yo (aqc J (aqc J (aqc J (aqc J aq0)))) J) (Yqa ((ckT F (Zd t 0)).ex S).1 _ _ 1 (Zd t 0).pos h) ?_)))
  rintro v147 w147 ⟨rfl, h, g147⟩
  refine ⟨nw1, ?_⟩
  have g := g.trans g147
  replace E := E.gt g147 rfl
  have k18 := k18.gt g147
  refine Zb (kq (Zg (Zx Xa J (Zx Ws J (Vz Vb J J J E.g2 ?_)))))
  intro wS25 hgS25 _ BS
  have C5 := E.g2
  replace E := E.s2 hgS25 BS
  have g := Zy g hgS25 (by omega)
  have h := h.keep hgS25 C5 rfl (by omega)
  have k18 := k18.keep hgS25 (by simp)
  refine Zb (kq (Ze (Zg (Yk Zc J J E.g2.row (Yt Zl J J J E.g3 ?_)))))
  intro wS26 hgS26 _ BS
  have C4 := E.g3
  replace E := E.s3 hgS26 BS
  have g := Zy g hgS26 (by omega)
  have h := h.keep hgS26 C4 rfl (by omega)
  have k18 := k18.keep hgS26 (by simp)
  refine Zb (kq (Zr (Xj J (Yy J Zc J (E.g3.row) (Yf)) ?_)))
  have e : opR t (ckY F t) S = (annT t [((ckT F (Zd t 0)).ex S).1] ⟨6, []⟩, wantS ((ckT F (Zd t 0)).ex S).1 1 (Zd t 0).pos ((ckT F (Zd t 0)).ex S).2) := by unfold opR; dsimp only; rw [Yeg h1, Yeg h2, Yeg h4, h6, h7, h8, h9]; rfl
  rw [e]; exact ⟨Xz (t := annT t [_] _) rfl (Uk (ks := [_]) ⟨l20, Ug E.g0⟩ E.g0.row (Wp (k18.kdN q18)) (Nat.le_refl _)), h, g⟩
 refine Yc (kq (Ze (Zg (Yk Zc J J E.g2.row (Yt Zl J J J E.g3 ?_)))))
 intro wS27 hgS27 _ BS
 have C4 := E.g3
 replace E := E.s3 hgS27 BS
 have g := Zy g hgS27 (by omega)
 have h := h.keep hgS27 C4 rfl (by omega)
 have k18 := k18.keep hgS27 (by simp)
 refine Zb (kq (Zr (Xj J (Yy J Zc J (E.g3.row) (Yf)) ?_)))
 have e : opR t (ckY F t) S = (annT t [((ckT F (Zd t 0)).ex S).1] ty0, ((ckT F (Zd t 0)).ex S).2) := by unfold opR; dsimp only; rw [Yeg h1, Yeg h2, Yeg h4, h6, h7, h8, h9]; rfl
 rw [e]; exact ⟨Xz (t := annT t [_] _) rfl (Uk (ks := [_]) ⟨l20, Ug E.g0⟩ E.g0.row (Wp (k18.kdN q18)) (Nat.le_refl _)), h, g⟩
set_option maxHeartbeats 1000000
theorem Zkf {w w' : World} {a : Option Addr} {m m' c : Nat} (h : w.grownBy w' (Value.slice a m c).ownBlock) : w.grownBy w' (Value.slice a m' c).ownBlock := by cases a <;> exact h
theorem Zwe {F t : Nd} (S : CSt) : ∀ i, i ≤ t.kids.length → stA (ckX F t) S i = stA (ckY F t) S i
 | 0, _ => rfl
 | i + 1, h => by
  rw [stA, stA, Zwe S i (by omega), Uo (show i < t.kids.length by omega)]; rfl
theorem Xte (x : Nat → Ck) (S : CSt) : ∀ i, (stA x S i).1.length = i
 | 0 => rfl
 | i + 1 => by
  show ((stA x S i).1 ++ [_]).length = _
  rw [List.length_append, Xte x S i]; rfl
theorem Zlf {F t : Nd} (S : CSt) (i : Nat) (h : i ≤ t.kids.length) : Stp (sC t i) S (stA (ckY F t) S i).2 := by
 rw [← Zwe S i h]; exact Wcd (Zsd F t) S i
theorem Uhe {F t : Nd} (K : ∀ i, i < t.kids.length → CkOk F (Zd t i)) (hx : blockB t = true) : CkM' 1000001 F Jt t (ckT F t).sts := by
 intro n0 b S w v N h hkw hb hcn
 have hall := sh10 hx
 have e : (ckT F t).sts S = (annT t (stA (ckY F t) S t.kids.length).1 ty0, (stA (ckY F t) S t.kids.length).2) := by
  rw [Qw]
  show (annT t (stA (ckX F t) S t.kids.length).1 ty0, (stA (ckX F t) S t.kids.length).2) = _
  rw [Zwe S _ (Nat.le_refl _)]
 rw [e]
 obtain ⟨p, c, rfl, _⟩ := id hkw
 have hlt := h.lt
 have hln := Qt t
 have g := GT.refl mutR n0 w
 refine Yp (m := 29) Ybb J J [(0, True, _), (1, True, _)] (Za J (Za J (Zj _))) ?_
 refine Ze (Zg (Wq J (Zk J) J ?_))
 intro b3 w3 N3
 have l3 := Xm N3 g.size
 have g := gtg g N3.g
 have h := h.grow (N3.g)
 have E := (Wo _).new N3
 refine Yh J Zm J ?_
 intro b4 w4 N4
 have l4 := Xm N4 g.size
 have g := gtg g N4.g
 have h := h.grow (N4.g)
 replace E := E.new N4
 refine Zb (kq (Ze (Zg (Yk Zc J J E.g1.row (Ya J (Zo Vg Yo (aqc J aq0) J) (Uw t _ _ _) ?_)))))
 rintro v8 w8 ⟨rfl, g8⟩
 refine ⟨fun _ => g8, ?_⟩
 have g := gtg g g8
 replace E := E.grow g8
 have h := h.grow (g8)
 refine Yh J Zm J ?_
 intro b5 w5 N5
 have l5 := Xm N5 g.size
 have g := gtg g N5.g
 have h := h.grow (N5.g)
 replace E := E.new N5
 refine Yt Zl J J J E.g0 ?_
 intro wS1 hgS1 _ BS
 have C5 := E.g0
 replace E := E.s0 hgS1 BS
 have g := Zy g hgS1 (by omega)
 have h := h.keep hgS1 C5 rfl (by omega)
 refine Zb (kq (Ze (Ze (Zg (Zp J (Zb (kq (Yu (?_)))))))))
 have hnd1 := E.1
 refine Jy (fun (i : Nat) u1 => (i ≤ t.kids.length ∧ Chk F n0 b (stA (ckY F t) S i).2 u1 ∧ ∃ s, Blk u1 b5 Vd (ndCells (clnT t) s) ∧ OwnN [b3, b4, b5] w.heap.size u1 (stA (ckY F t) S i).1 s) ∧ GT mutR n0 w u1) _ [(0, True, _), (3, True, _), (4, True, _), (5, True, _)] (fun (i : Nat) => [(6, True, .int .i64 i)]) (fun (i : Nat) => t.kids.length - i) (0) ⟨⟨Nat.zero_le _, h, _, E.g0, Wlb _ _ _⟩, g⟩ (Xr (blkE E.g2) (Xr (blkE E.g1) (Ua _))) (Za J (Za J (Za J (Za J (Za J (Zj _)))))) ?_
 clear E
 rintro i u1 ⟨hI1, gl1⟩ ⟨B3, B4, _⟩
 replace B3 : Blk _ _ _ _ := B3
 replace B4 : Blk _ _ _ _ := B4
 have g := gl1
 obtain ⟨hi, h, s, B5, hO⟩ := hI1
 obtain ⟨sa, sc, rfl⟩ := hO.slice
 have hk0 := hkw.gt gl1 (fun k h => h)
 have E := Uwa (L := [(b5, _, _), (b4, _, _), (b3, _, _)]) hnd1 ⟨B5, B4, B3, trivial⟩ rfl
 refine Ze (Ze (Zg (Zt J (Zx Zi J (Yg Zh J (E.g2.at_ J) (Qu Zf J (Zfa J J (Zb (kq (Yv J (fun h1 => ?_) (fun h1 => ?_)))))))))))
 ·replace h1 : i < t.kids.length := by simp only [decide_eq_true_eq] at h1; omega
  obtain ⟨e0, p1, c1, hcell, hkid⟩ := Xs hk0 (i := i) h1
  have hDp : pb p < n0 := Uja hk0 h1
  have hq : CkC F Zva (Zd t i) (ckT F (Zd t i)).st := (K i h1).st (Qh hall h1)
  have hbd := (Zlf (F := F) S i hi).bd _ hb
  have hsc := Zqb t (i + 1)
  have hcN := Utc h1
  have hsc1 : sC t (i + 1) = sC t i + cN t i := rfl
  have hOlt := hO.lt
  have hlen := Xte (ckY F t) S i
  refine Yc (kq (Ze (Yu (Ud (gtR n0) [3, 0, 3, 3, 0, 3, 3, 0, 1, 1, 2, 3, 2] [0, 1, 0, 0, 8, 0, 56, 120, 252, 508, 1023, 2047, 4095] mix (by kernel_rfl) [0, 1, 2, 3, 4, 5, 6, 7, 8, 9, 10, 11, 12] J ?_))))
  have g := gtd g
  replace E := E.dr
  have h := h.grow (G.drew _)
  have hO := hO.grow (G.drew _)
  have hcell := hcell.grow (G.drew _)
  have hkid := hkid.grow (G.drew _)
  refine Xc 0 J J (fun _ => Zv Zi (Zk J)) (Vk 1 J J (fun w1 hx => Ye Zh (Zk J) (fun _ => (E.g0.gt hx J).at_ J)) (Xc 2 J J (fun _ => Yl (Zk J)) (Xc 3 J J (fun _ => Zv Zi (Zk J)) (Vk 4 J J (fun w1 hx => Ye Zh (Zk J) (fun _ => (E.g2.gt hx J).at_ J)) (Xc 5 J J (fun _ => Yl (Zk J)) (Xc 6 J J (fun _ => Wj Zf (Zk J) (Zk J) (fun _ => by omega) (fun _ => e0)) (Vk 7 J J (fun w1 hx => Xd Zc (Zk J) J (fun _ => hcell.gt hx hDp)) (Xo 8 J J ?_))))))))
  refine Xg (L' := [9, 10, 11, 12]) [3, 0, 3, 3, 0, 3, 3, 0, 2, 1, 2, 3, 2] J J J ?_
  refine Ya J (Zo Vya Yo (aqc J (aqc J aq0)) J) (CkC.to hq [b3, b4, b5] h hkid hbd (by omega) (E.ltm (by simp [selB])) g.size) ?_
  rintro v24 w24 ⟨⟨p24, c24, rfl, q24, k24⟩, h, g24⟩
  refine ⟨nw1, ?_⟩
  have g := g.trans g24
  replace E := E.gt g24 rfl
  have hO := hO.gt g24 rfl
  refine Wa (g24) ?_
  refine Xo 9 J J ?_
  refine Xg (L' := [10, 11, 12]) [3, 0, 3, 3, 0, 3, 3, 0, 2, 1, 2, 3, 2] J J J ?_
  refine Yb _ J Zf Zm (pqc J pq0) J J ?_
  intro b25 w25 N25
  have l25 := Xm N25 g.size
  have k24 := k24.new N25
  have g := gtg g N25.g
  have h := h.grow (N25.g)
  have hO := hO.grow (N25.g)
  replace E := E.new N25
  refine Wa (GT.of_g (N25.g)) ?_
  refine Xo 10 J J ?_
  refine Wt (L' := [11, 12]) [3, 0, 3, 3, 0, 3, 3, 0, 2, 1, 2, 3, 2] J J J J ?_
  have hOo := hO
  refine Ur J Zf Zm J (Zk J) hO (Zk J) J E.g0.row (Zra k24 q24 (by intro j hj; simp at hj ⊢; omega) (fun j hj => .inr (hOlt j hj))) (by simp; omega) (by have := g.size; omega) ⟨by have := g.size; omega, by have q3 := E.g3.lt; have q4 := E.g2.lt; have q5 := E.g1.lt; simp; omega⟩ ?_
  intro a26 c26 w26 hO hg26
  replace E := E.sel [false, true, true, true]
  replace E := E.keepX hg26 hOo.ne (by simp [selB])
  have g := Qj g hg26 (fun k hk => hOo.ge k hk)
  have h := h.keepO hg26 hOo (by omega)
  refine Vm ?_
  refine Xc 11 J J (fun _ => Zv Zi (Zk J)) (Xo 12 J J ?_)
  refine Wt (L' := []) [3, 0, 3, 3, 0, 3, 3, 0, 2, 1, 2, 3, 2] J J J J ?_
  refine Vz Xb J J J E.g0 ?_
  intro wS2 hgS2 _ BS
  have C5 := E.g0
  replace E := E.s0 hgS2 BS
  have g := Zy g hgS2 (by omega)
  have h := h.keep hgS2 C5 rfl (by omega)
  have hO := hO.keep hgS2 (by simp)
  refine Vm ?_
  refine Uq [(0, _, _), (3, _, _), (4, _, _), (5, _, _), (6, _, _)] (Za J (Za J (Za J (Za J (Za J (Zj _)))))) (Up (kq (Zg (Zt J (Qv J J (by omega) (Zp J (Wh [(6, _, _), (0, _, _), (3, _, _), (4, _, _), (5, _, _)] (Za J (Za J (Za J (Za J (Za J (Zj _)))))) (Zb (fun a ha => ?_)))))))))
  exact ⟨i + 1, ha, ⟨⟨h1, h, _, E.g0, hO⟩, g⟩, (Xr (blkE E.g2) (Xr (blkE E.g1) (Ua _))), by omega⟩
 replace h1 : i = t.kids.length := by simp only [decide_eq_false_iff_not] at h1; omega
 subst h1
 refine Vq J (kq (Ze (Zg (Yk Zc J J E.g0.row (Yt Zl J J J E.g1 ?_)))))
 intro wS3 hgS3 _ BS
 have C4 := E.g1
 replace E := E.s1 hgS3 BS
 have g := Zy g hgS3 (by omega)
 have h := h.keep hgS3 C4 rfl (by omega)
 have hO := hO.keep hgS3 (by simp)
 refine Zb (kq (Zr (Xj J (Yy J Zc J (E.g1.row) (Yf)) ?_)))
 exact ⟨Xz (t := annT t _ ty0) rfl hO.kd, h, g⟩
theorem Uvd {F t : Nd} (K : ∀ i, i < t.kids.length → CkOk F (Zd t i)) (hk38 : t.kind = 38) (hx : exprB t = true) : CkC F Yfb t (litR t (ckY F t)) := by
 intro n0 b S w v N h hk0 hb hcn
 obtain ⟨hl, hbl⟩ := sh38 hk38 hx
 obtain ⟨p, c, rfl, _⟩ := id hk0
 have hlt := h.lt
 have hc1 := cn1 hl
 have Q0 := K 0 (by omega)
 have hlv := hb.lv
 have hnl := hb.nl
 have hbl1 := Zbf hb
 have hsl := (Uba F (Zd t 0)).blk (litS S)
 have hlv2 : ((ckT F (Zd t 0)).blk (litS S)).2.level = S.level + 1 := hsl.level
 obtain ⟨fv, sv, sn, h⟩ := h
 have g := GT.refl mutR n0 w
 refine Yp (m := 60) Jha J J [(0, True, _), (1, True, _)] (Za J (Za J (Zj _))) ?_
 refine Ze (Zg (Wq J (Zk J) J ?_))
 intro b3 w3 N3
 have l3 := Xm N3 g.size
 have g := gtg g N3.g
 have h := h.grow (N3.g)
 have hk0 := hk0.grow (N3.g)
 have E := (Wo _).new N3
 refine Yh J Zm J ?_
 intro b4 w4 N4
 have l4 := Xm N4 g.size
 have g := gtg g N4.g
 have h := h.grow (N4.g)
 have hk0 := hk0.grow (N4.g)
 replace E := E.new N4
 refine Zb (kq (Ze (Zg (Yk Zc J J E.g1.row (Ya J (Zo Vg Yo (aqc J aq0) J) (Uw t _ _ _) ?_)))))
 rintro v8 w8 ⟨rfl, g8⟩
 refine ⟨fun _ => g8, ?_⟩
 have g := gtg g g8
 replace E := E.grow g8
 have h := h.grow (g8)
 have hk0 := hk0.grow (g8)
 refine Yh J Zm J ?_
 intro b5 w5 N5
 have l5 := Xm N5 g.size
 have g := gtg g N5.g
 have h := h.grow (N5.g)
 have hk0 := hk0.grow (N5.g)
 replace E := E.new N5
 refine Yt Zl J J J E.g0 ?_
 intro wS1 hgS1 _ BS
 have C5 := E.g0
 replace E := E.s0 hgS1 BS
 have g := Zy g hgS1 (by omega)
 have h := h.keep hgS1 C5 rfl (by omega)
 have hk0 := hk0.keep hgS1 (fun k hk _ e => by injection e with e; omega)
 refine Zb (kq (Ze (Zg (Uc Yq Xv (pqc J pq0) J J (Zx Xa J (Ww J Yn (Zk J) (Zk J) J J E.g0 J J ?_))))))
 intro wS2 hgS2 _ BS
 have C5 := E.g0
 replace E := E.s0 hgS2 BS
 have g := Zy g hgS2 (by omega)
 have h := h.keep hgS2 C5 rfl (by omega)
 have hk0 := hk0.keep hgS2 (fun k hk _ e => by injection e with e; omega)
 refine Zb (kq (Ze (Zg (Zt J (Ui J (Zx Vi J (Yk Zs J J (h.B.row.part 13 2) (Yh J Yq J ?_))))))))
 intro b6 w6 N6
 have l6 := Xm N6 g.size
 have g := gtg g N6.g
 have h := h.grow (N6.g)
 have hk0 := hk0.grow (N6.g)
 replace E := E.new N6
 refine Yt Yn J J J E.g0 ?_
 intro wS3 hgS3 _ BS
 have C6 := E.g0
 replace E := E.s0 hgS3 BS
 have g := Zy g hgS3 (by omega)
 have h := h.keep hgS3 C6 rfl (by omega)
 have hk0 := hk0.keep hgS3 (fun k hk _ e => by injection e with e; omega)
 refine Zb (kq (Ze (Zg (Zt J (Uc Yq Xv pq0 J J (Ui J (Zx Vi J (Ww J Yn (Zk J) (Zk J) J J h.B J J ?_))))))))
 intro wA hgA hzA BA
 replace E := E.keepT hgA (h.B) rfl
 have g := Yja g hgA h.B rfl h.hb
 have hk0 := hk0.keep hgA (fun k hk _ e => by injection e with e; have := h.hb; omega)
 have h := h.set (S' := { S with result := ty0 }) hgA BA rfl rfl
 have l1 : ({ S with result := ty0 } : CSt).level = S.level := rfl
 refine Zb (kq (Ze (Zg (Zt J (Ui J (Zx Wv J (Yg Zu J (h.B.at_ J) (Qv J J (by omega) (Ui J (Zx Wv J (Ww J Vb (Zk J) (Zk J) J J h.B J J ?_)))))))))))
 intro wB hgB hzB BB
 replace E := E.keepT hgB (h.B) rfl
 have g := Yja g hgB h.B rfl h.hb
 have hk0 := hk0.keep hgB (fun k hk _ e => by injection e with e; have := h.hb; omega)
 have h := h.set (S' := { S with result := ty0, level := S.level + 1 }) hgB BB rfl rfl
 obtain ⟨an, cn, rfl, hcapn⟩ := Zxb h.on
 have l2 : ({ S with result := ty0, level := S.level + 1 } : CSt).level = S.level + 1 := rfl
 have l3' : ({ S with result := ty0, level := S.level + 1 } : CSt).next.length = S.next.length := rfl
 refine Zb (kq (Ze (Wr [3, 3, 3, 3, 0, 3, 3, 3, 0, 3, 1, 2, 3, 3, 2] [true, true, true, true, true, true, true, true, true, true, true, true, true, true, true] [0, 0, 2, 6, 14, 0, 32, 96, 224, 510, 0, 2046, 4095, 8191, 16383] mix (by kernel_rfl) ?_)))
 have g := gtd g
 replace E := E.dr
 have h := h.grow (G.drew _)
 have hk0 := hk0.grow (G.drew _)
 refine Zt J (Zt J (Ui J (Zx Vx J (Yg Qba J (h.B.at_ J) (Zt J (Ui J (Zx Wv J (Yg Zu J (h.B.at_ J) (Yi J (fun _ => Vcd Ul (Zk J) (Zk J) (fun _ => by omega)) (Yb _ J Ul Yxa (pqc J pq0) J J ?_))))))))))
 intro b36 w36 N36
 have l36 := Xm N36 g.size
 have B36 := N36.blk
 have g := gtg g N36.g
 replace E := E.grow N36.g
 have h := h.grow (N36.g)
 have hk0 := hk0.grow (N36.g)
 refine Ysa J Ul Yxa J (by decide) (Zk J) (Xoe h.on (j := S.level + 1) hlv) (Zk J) J N36.blk.row J (by simp only [maxLen]; omega) (by omega) (by have := g.size; omega) ?_
 intro an2 cn2 w37 hon2 hg37 hat37
 have hg37 : World.grownBy _ w37 (Value.slice an S.next.length cn).ownBlock := Zkf hg37
 have g := Jne g h.on rfl hg37
 replace E := E.keepN h.on hg37 rfl
 have hk0 := hk0.keep hg37 (fun k hk _ e => by have := (Vgb (M := mutR) h.on rfl k e.symm).1; omega)
 refine Ui J (Zx Vx J (Ww J Zlc (Zk J) (Zk J) J J (h.rown hg37).1 J J ?_))
 intro wC hgC hzC BC
 replace E := E.keepT hgC ((h.rown hg37).1) rfl
 have g := Yja g hgC (h.rown hg37).1 rfl h.hb
 have hk0 := hk0.keep hgC (fun k hk _ e => by injection e with e; have := h.hb; omega)
 have hl2 : (litS S).next.length = S.level + 1 + 1 := by
  show (S.next.take (S.level + 1) ++ [0]).length = _
  rw [List.length_append, List.length_take, Nat.min_eq_left hlv]; rfl
 have hm2 : (litS S).next.map (fun (k : Nat) => Value.int .i64 (k : Int)) = (S.next.map fun (k : Nat) => Value.int .i64 (k : Int)).take ((S.level + 1) * 1) ++ [.int .i64 0] := by
  show (S.next.take (S.level + 1) ++ [0]).map _ = _
  rw [List.map_append, List.map_take, Nat.mul_one]; rfl
 have h := h.setn (S' := litS S) hg37 (by rw [hl2, hm2]; exact hon2) hgC BC rfl
 refine Zb (kq (Ze (Zg (Zt J (Zx Zi J (Yg Zh J (E.g3.at_ J) (?_)))))))
 obtain ⟨hpe, p_43, c_43, hcell, hkid⟩ := Xs hk0 (i := 0) (by omega)
 refine Ve Zf J J (by omega) hpe (Yk Zc J J hcell (Ya J (Zo Ju Yo (aqc J (aqc J aq0)) J) (CkC.to (Q0.blk hbl) [b3, b4, b5, b6] h.chk hkid hbl1 (by omega) (E.ltm (by simp [selB])) g.size) ?_))
 rintro v45 w45 ⟨⟨p45, c45, rfl, q45, k45⟩, hT, g45⟩
 refine ⟨nw1, ?_⟩
 have g := g.trans g45
 replace E := E.gt g45 rfl
 obtain ⟨fv2, sv2, sn2, h⟩ := hT
 refine Yb _ J Zf Zm (pqc J pq0) J J ?_
 intro b46 w46 N46
 have l46 := Xm N46 g.size
 have k45 := k45.new N46
 have g := gtg g N46.g
 have h := h.grow (N46.g)
 replace E := E.new N46
 refine Zx Zi J (Vz Xb J J J E.g2 ?_)
 intro wS7 hgS7 _ BS
 have C5 := E.g2
 replace E := E.s2 hgS7 BS
 have g := Zy g hgS7 (by omega)
 have h := h.keep hgS7 C5 rfl (by omega)
 have k45 := k45.keep hgS7 (by first | exact .inl (by omega) | exact .inr (by simp))
 refine Zb (kq (Ze (Zg (Zt J (Ui J (Zx Wv J (Yg Zu J (h.B.at_ J) (Yi J (fun _ => Xxa (Zk J) Xy (fun _ => by omega)) (Ui J (Zx Wv J (Ww J Vb (Zk J) (Zk J) J J h.B J J ?_)))))))))))
 intro wD hgD hzD BD
 replace E := E.keepT hgD (h.B) rfl
 have g := Yja g hgD h.B rfl h.hb
 have k45 := k45.keepb hgD h.B rfl
 have eD : (((ckT F (Zd t 0)).blk (litS S)).2.level : Int) - 1 = ((((ckT F (Zd t 0)).blk (litS S)).2.level - 1 : Nat) : Int) := by omega
 rw [eD] at BD
 have h := h.set (S' := { ((ckT F (Zd t 0)).blk (litS S)).2 with level := ((ckT F (Zd t 0)).blk (litS S)).2.level - 1 }) hgD BD rfl rfl
 refine Zb (kq (Ze (Zg (Zt J (Yk Zs J J E.g1.row (Ui J (Zx Vi J (Ww J Yn (Zk J) (Zk J) J J h.B J J ?_))))))))
 intro wE hgE hzE BE
 replace E := E.keepT hgE (h.B) rfl
 have g := Yja g hgE h.B rfl h.hb
 have k45 := k45.keepb hgE h.B rfl
 have h := h.set (S' := { ((ckT F (Zd t 0)).blk (litS S)).2 with level := ((ckT F (Zd t 0)).blk (litS S)).2.level - 1, result := S.result }) hgE BE rfl rfl
 refine Zb (kq (Ze (Zg (Yk Zc J J E.g2.row (Yt Zl J J J E.g3 ?_)))))
 intro wS10 hgS10 _ BS
 have C4 := E.g3
 replace E := E.s3 hgS10 BS
 have g := Zy g hgS10 (by omega)
 have h := h.keep hgS10 C4 rfl (by omega)
 have k45 := k45.keep hgS10 (by first | exact .inl (by omega) | exact .inr (by simp))
 refine Zb (kq (Zr (Xj J (Yy J Zc J (E.g3.row) (Yf)) ?_)))
 exact ⟨Xz (t := annT t [_] tFunc) rfl (Uk (ks := [_]) ⟨l46, Ug E.g0⟩ E.g0.row (Wp (k45.kdN q45)) (Nat.le_refl _)), h.chk, g⟩
set_option maxHeartbeats 1000000
theorem Zmf {w : World} {l : List Fld} {p : Option Addr} {c : Nat} (h : RowF fldCells w l (.slice p l.length c)) {i : Nat} (hi : i < l.length) : p = some ⟨pb p, po p, none⟩ ∧ RowAt w (pb p) (po p + i * 3) (fldCells l[i]) := by
 obtain ⟨p', c', hv, hc, h⟩ := h
 injection hv with e1 _ e2
 subst e1
 obtain ⟨b, o, rfl, hR⟩ := h (by omega)
 exact ⟨rfl, Wcc (f := fldCells) (z := 3) Xyc hR hi⟩
theorem KdX.low {lo lo' : Nat} {X : List Nat} {w : World} {ks : List Nd} {v : Value} (h : KdX lo X w ks v) (hl : lo' ≤ lo) : KdX lo' X w ks v := Kd.mono h fun k hk _ => ⟨⟨Nat.le_trans hl hk.1.1, hk.1.2⟩, hk.2⟩
theorem Znf (F : Nd) (name : List UInt8) : (Qn F name).1.length ≤ count F := by
 unfold Qn
 cases h : F.kids.find? (isStr name) with
 | none => exact Nat.zero_le _
 | some d =>
  dsimp only
  have hm := List.mem_of_find?_eq_some h
  have hc := Zma hm
  have hk := Qt d
  cases h2 : mapO Xpa d.kids with
  | none => exact Nat.zero_le _
  | some l =>
   have := Ulc Xpa _ _ h2
   show l.length ≤ _
   omega
theorem Uie {L : List Fld} {i : Nat} (h : i < L.length) (s : List UInt8) : (L.drop i).find? (fun f => decide (f.name = s)) = bif decide (L[i].name = s) then some L[i] else (L.drop (i + 1)).find? (fun f => decide (f.name = s)) := by
 rw [List.drop_eq_getElem_cons h, List.find?_cons]
 cases decide (L[i].name = s) <;> rfl
theorem Uvc {F t : Nd} (K : ∀ i, i < t.kids.length → CkOk F (Zd t i)) (hk28 : t.kind = 28) (hx : exprB t = true) : CkM F t := by
 intro n0 b S w v N h hk0 hb hcn
 obtain ⟨_, hl, he⟩ := sh28 hk28 hx
 have e : (ckT F t).mem S = memR F t (ckY F t) S := by
  rw [Qw]
  show memR F t (ckX F t) S = _
  unfold memR; rw [Uo (show 0 < t.kids.length by omega)]; rfl
 rw [e]
 obtain ⟨p, c, rfl, _⟩ := id hk0
 have hlt := h.lt
 have hc1 := cn1 hl
 have Q0 := K 0 (by omega)
 have g := GT.refl mutR n0 w
 refine Yp (m := 68) Zbb J J [(0, True, _), (1, True, _)] (Za J (Za J (Zj _))) ?_
 refine Ze (Zg (Wq J (Zk J) J ?_))
 intro b3 w3 N3
 have l3 := Xm N3 g.size
 have g := gtg g N3.g
 have h := h.grow (N3.g)
 have hk0 := hk0.grow (N3.g)
 have E := (Wo _).new N3
 refine Yh J Zm J ?_
 intro b4 w4 N4
 have l4 := Xm N4 g.size
 have g := gtg g N4.g
 have h := h.grow (N4.g)
 have hk0 := hk0.grow (N4.g)
 replace E := E.new N4
 refine Zp J (Zb (kq (Ze (Zg (Yk Zc J J E.g1.row (Ya J (Zo Vg Yo (aqc J aq0) J) (Uw t _ _ _) ?_))))))
 rintro v12 w12 ⟨rfl, g12⟩
 refine ⟨fun _ => g12, ?_⟩
 have g := gtg g g12
 replace E := E.grow g12
 have h := h.grow (g12)
 have hk0 := hk0.grow (g12)
 refine Yh J Zm J ?_
 intro b6 w6 N6
 have l6 := Xm N6 g.size
 have g := gtg g N6.g
 have h := h.grow (N6.g)
 have hk0 := hk0.grow (N6.g)
 replace E := E.new N6
 refine Yt Zl J J J E.g0 ?_
 intro wS1 hgS1 _ BS
 have C6 := E.g0
 replace E := E.s0 hgS1 BS
 have g := Zy g hgS1 (by omega)
 have h := h.keep hgS1 C6 rfl (by omega)
 have hk0 := hk0.keep hgS1 (fun k hk _ e => by injection e with e; omega)
 refine Zb (kq (Ze (Zg (Zt J (Zx Zi J (Yg Zh J (E.g2.at_ J) (?_)))))))
 obtain ⟨hpe, p_16, c_16, hcell, hkid⟩ := Xs hk0 (i := 0) (by omega)
 refine Ve Zf J J (by omega) hpe (Yk Zc J J hcell (Ya J (Zo Wn Yo (aqc J (aqc J aq0)) J) (CkC.to (Q0.ex he) [b3, b4, b6] h hkid hb (by omega) (E.ltm (by simp [selB])) g.size) ?_))
 rintro v18 w18 ⟨⟨p18, c18, rfl, q18, k18⟩, h, g18⟩
 refine ⟨nw1, ?_⟩
 have g := g.trans g18
 replace E := E.gt g18 rfl
 refine Yh J Zm J ?_
 intro b7 w7 N7
 have l7 := Xm N7 g.size
 have k18 := k18.new N7
 have g := gtg g N7.g
 have h := h.grow (N7.g)
 replace E := E.new N7
 refine Yt Zl J J J E.g0 ?_
 intro wS2 hgS2 _ BS
 have C7 := E.g0
 replace E := E.s0 hgS2 BS
 have g := Zy g hgS2 (by omega)
 have h := h.keep hgS2 C7 rfl (by omega)
 have k18 := k18.keep hgS2 (by simp)
 refine Zb (kq (Ze (Zg (Yk Zc J J E.g0.row (Yb _ J Zf Zm (pqc J pq0) J J ?_)))))
 intro b20 w20 N20
 have l20 := Xm N20 g.size
 have k18 := k18.new N20
 have g := gtg g N20.g
 have h := h.grow (N20.g)
 replace E := E.new N20
 refine Zx Zi J (Vz Xb J J J E.g2 ?_)
 intro wS3 hgS3 _ BS
 have C6 := E.g2
 replace E := E.s2 hgS3 BS
 have g := Zy g hgS3 (by omega)
 have h := h.keep hgS3 C6 rfl (by omega)
 have k18 := k18.keep hgS3 (by simp)
 refine Zb (kq (Ze (Ze (Zg (Zx Xa J (Zx Ws J (Yg Zu J (E.g1.at_ J) (Wja J J (Zb (kq (Yv J (fun h1 => ?_) (fun h1 => ?_))))))))))))
 ·have hq : decide (((ckT F (Zd t 0)).ex S).1.ty.kind = 4) = false := by simpa using h1
  refine Ze (Zg (Zt J (Zx Yw J (Yg Zu J (E.g4.at_ J) (Ya J (Zo Yz Yo (aqc J (aqc J (aqc J aq0))) J) (Vj t.pos 7 h) ?_)))))
  rintro v29 w29 ⟨rfl, h, g29⟩
  refine ⟨nw1, ?_⟩
  have g := g.trans g29
  replace E := E.gt g29 rfl
  have k18 := k18.gt g29
  refine Zb (kq (Ze (Zg (Yk Zc J J E.g2.row (Yt Zl J J J E.g3 ?_)))))
  intro wS4 hgS4 _ BS
  have C4 := E.g3
  replace E := E.s3 hgS4 BS
  have g := Zy g hgS4 (by omega)
  have h := h.keep hgS4 C4 rfl (by omega)
  have k18 := k18.keep hgS4 (by simp)
  refine Zp J (Zb (kq (Zr (Wb (rs := [.cell 4 26, .tmp 5]) (vs := [_, _]) J J (Yy J Zc J (E.g3.row) (Wg J (Yf))) J ?_))))
  have e : memR F t (ckY F t) S = ((annT t [((ckT F (Zd t 0)).ex S).1] ty0, false), failS t.pos 7 ((ckT F (Zd t 0)).ex S).2) := by unfold memR; show (bif decide (((ckT F (Zd t 0)).ex S).1.ty.kind = 4) then _ else _) = _; rw [hq]; rfl
  rw [e]; exact ⟨⟨_, rfl, Xz (t := annT t [_] ty0) rfl (Uk (ks := [_]) ⟨l20, Ug E.g0⟩ E.g0.row (Wp (k18.kdN q18)) (Nat.le_refl _))⟩, h, g⟩
 have hq : decide (((ckT F (Zd t 0)).ex S).1.ty.kind = 4) = true := by simpa using h1
 obtain ⟨fv, sv, sn, h⟩ := h
 have k18 := k18.low q18
 have hfl := Znf F ((ckT F (Zd t 0)).ex S).1.ty.name
 have hFc := h.hF
 refine Yc (kq (Ze (Wr [3, 3, 3, 0, 3, 3, 0, 1, 3, 3, 3, 3, 3] [true, true, true, true, true, true, true, true, true, true, true, true, true] [0, 1, 3, 7, 0, 16, 48, 127, 255, 511, 511, 1023, 4095] mix (by kernel_rfl) ?_)))
 have g := gtd g
 replace E := E.dr
 have h := h.grow (G.drew _)
 have k18 := k18.grow (G.drew _)
 refine Zt J (Ui J (Zx Vw J (Yk Zc J J (h.B.row.part 0 9) (Zx Xa J (Zx Jna J (Yg Yr J (E.g1.at_ J) (Ya J (Zo Jic Yo (aqc J (aqc J aq0)) J) (Zte F ((ckT F (Zd t 0)).ex S).1.ty.name fv (fun k => k < n0) _ h.kF h.hF) ?_)))))))
 rintro v39 w39 ⟨⟨l39, rfl, hr39⟩, g39⟩
 refine ⟨fun _ => g39, ?_⟩
 have g := gtg g g39
 replace E := E.grow g39
 have h := h.grow (g39)
 have k18 := k18.grow (g39)
 obtain ⟨p39, c39, rfl, _, _⟩ := id hr39
 refine Zt J (Qc J J (Qc J J (Zp J (Zp J (Zb (kq (Ze (Ze (Zg (Zp J (Zb (kq (Yu (Qq (fun (i : Nat) u1 => (i ≤ (Qn F ((ckT F (Zd t 0)).ex S).1.ty.name).1.length ∧ (Qn F ((ckT F (Zd t 0)).ex S).1.ty.name).1.find? (fun f => decide (f.name = t.text)) = ((Qn F ((ckT F (Zd t 0)).ex S).1.ty.name).1.drop i).find? (fun f => decide (f.name = t.text)) ∧ CK F n0 b ((ckT F (Zd t 0)).ex S).2 fv sv sn u1 ∧ RowF fldCells u1 (Qn F ((ckT F (Zd t 0)).ex S).1.ty.name).1 (.slice p39 (Qn F ((ckT F (Zd t 0)).ex S).1.ty.name).1.length c39) ∧ KdX w.heap.size [b20, b7, b3, b4, b6] u1 ((ckT F (Zd t 0)).ex S).1.kids (.slice p18 ((ckT F (Zd t 0)).ex S).1.kids.length c18)) ∧ GT mutR n0 w39 u1) [(0, True, _), (3, True, _), (4, True, _), (6, True, _), (8, True, _)] (fun (i : Nat) => [(10, True, .int .i64 i)]) (fun (i : Nat) => (Qn F ((ckT F (Zd t 0)).ex S).1.ty.name).1.length - i) (0) ⟨⟨Nat.zero_le _, rfl, h, hr39, k18⟩, GT.refl _ _ _⟩ (Za J (Za J (Za J (Za J (Za J (Za J (Zj _))))))) ?_))))))))))))))
 rintro i u1 ⟨hI1, gl1⟩
 have g := g.trans gl1
 replace E := E.gt gl1 rfl
 obtain ⟨hi, hF, h, hr39, k18⟩ := hI1
 refine Ze (Ze (Zg (Zt J (Zt J (Qu Ypa J (Zfa J J (Zb (kq (Yv J (fun h2 => ?_) (fun h2 => ?_))))))))))
 ·replace h2 : i < (Qn F ((ckT F (Zd t 0)).ex S).1.ty.name).1.length := by simp only [decide_eq_true_eq] at h2; omega
  have hrf := Zmf hr39 h2
  rw [Uie h2] at hF
  refine Yc (kq (Ze (Yu (Ze (Wr [3, 3, 3, 3, 0, 3, 0, 3] [true, true, true, true, true, true, true, true] [0, 0, 3, 7, 15, 0, 32, 127] mix (by kernel_rfl) ?_)))))
  have g := gtd g
  have gl1 := gl1.trans (GT.of_g (G.drew _))
  replace E := E.dr
  have h := h.grow (G.drew _)
  have hr39 := hr39.grow (G.drew _)
  have k18 := k18.grow (G.drew _)
  refine Zt J (Zt J (Ve Ypa J J (by omega) hrf.1 (Zx Ubc J (Yg Yr J ((hrf.2.grow (G.drew _)).one (i := 0) J) (Zx Ym J (Yg Yr J (E.g4.at_ J) (Wi J J (Zb (kq (Yv J (fun h3 => ?_) (fun h3 => ?_)))))))))))
  ·rw [h3, cond_true] at hF
   refine Ze (Zg (Zt J (Zt J (Ve Ypa J J (by omega) hrf.1 (Zx Ucc J (Yk Zs J J ((hrf.2.grow (G.drew _)).part 1 2) (Zx Xa J (Ww J Yn (Zk J) (Zk J) J J E.g2 J J ?_))))))))
   intro wS5 hgS5 _ BS
   have C6 := E.g2
   replace E := E.s2 hgS5 BS
   have g := Zy g hgS5 (by omega)
   first | replace gl1 := Zy gl1 hgS5 (by omega) | clear gl1 | skip
   have h := h.keep hgS5 C6 rfl (by omega)
   have k18 := k18.keep hgS5 (by simp)
   refine Zb (kq (Ze (Zg (Yk Zc J J E.g2.row (Yt Zl J J J E.g3 ?_)))))
   intro wS6 hgS6 _ BS
   have C4 := E.g3
   replace E := E.s3 hgS6 BS
   have g := Zy g hgS6 (by omega)
   first | replace gl1 := Zy gl1 hgS6 (by omega) | clear gl1 | skip
   have h := h.keep hgS6 C4 rfl (by omega)
   have k18 := k18.keep hgS6 (by simp)
   refine Zp J (Zb (kq (Zr (Wb (rs := [.cell 4 26, .tmp 5]) (vs := [_, _]) J J (Yy J Zc J (E.g3.row) (Wg J (Yf))) J ?_))))
   have e : memR F t (ckY F t) S = ((annT t [((ckT F (Zd t 0)).ex S).1] (Qn F ((ckT F (Zd t 0)).ex S).1.ty.name).1[i].ty, true), ((ckT F (Zd t 0)).ex S).2) := by
    unfold memR; show (bif decide (((ckT F (Zd t 0)).ex S).1.ty.kind = 4) then _ else _) = _; rw [hq, cond_true]
    show (match (Qn F ((ckT F (Zd t 0)).ex S).1.ty.name).1.find? (fun f => decide (f.name = t.text)) with | some f => _ | none => _) = _
    rw [hF]; rfl
   rw [e]; exact ⟨⟨_, rfl, Xz (t := annT t [_] _) rfl (Uk (ks := [_]) ⟨l20, Ug E.g0⟩ E.g0.row (Wp (k18.kdN (Nat.le_refl _))) (Nat.le_refl _))⟩, h.chk, g⟩
  rw [h3, cond_false] at hF
  refine Yc (kq (Zg (Zt J (Qv J J (by omega) (Zp J (Wh [(10, _, _), (0, _, _), (3, _, _), (4, _, _), (6, _, _), (8, _, _)] (Za J (Za J (Za J (Za J (Za J (Za J (Zj _))))))) (Zb (fun a ha => ?_))))))))
  exact ⟨i + 1, ha, ⟨⟨h2, hF, h, hr39, k18⟩, gl1⟩, by omega⟩
 replace h2 : i = (Qn F ((ckT F (Zd t 0)).ex S).1.ty.name).1.length := by simp only [decide_eq_false_iff_not] at h2; omega
 subst h2
 rw [List.drop_length] at hF
 refine Vq J (kq (Ze (Zg (Zt J (Zx Yw J (Yg Zu J (E.g4.at_ J) (Ya J (Zo Yz Yo (aqc J (aqc J (aqc J aq0))) J) (Vj t.pos 5 h.chk) ?_)))))))
 rintro v66 w66 ⟨rfl, h, g66⟩
 refine ⟨nw1, ?_⟩
 have g := g.trans g66
 have gl1 := gl1.trans g66
 replace E := E.gt g66 rfl
 have k18 := k18.gt g66
 refine Zb (kq (Ze (Zg (Yk Zc J J E.g2.row (Yt Zl J J J E.g3 ?_)))))
 intro wS7 hgS7 _ BS
 have C4 := E.g3
 replace E := E.s3 hgS7 BS
 have g := Zy g hgS7 (by omega)
 first | replace gl1 := Zy gl1 hgS7 (by omega) | clear gl1 | skip
 have h := h.keep hgS7 C4 rfl (by omega)
 have k18 := k18.keep hgS7 (by simp)
 refine Zp J (Zb (kq (Zr (Wb (rs := [.cell 4 26, .tmp 5]) (vs := [_, _]) J J (Yy J Zc J (E.g3.row) (Wg J (Yf))) J ?_))))
 have e : memR F t (ckY F t) S = ((annT t [((ckT F (Zd t 0)).ex S).1] ty0, false), failS t.pos 5 ((ckT F (Zd t 0)).ex S).2) := by
  unfold memR; show (bif decide (((ckT F (Zd t 0)).ex S).1.ty.kind = 4) then _ else _) = _; rw [hq, cond_true]
  show (match (Qn F ((ckT F (Zd t 0)).ex S).1.ty.name).1.find? (fun f => decide (f.name = t.text)) with | some f => _ | none => _) = _
  rw [hF]; rfl
 rw [e]; exact ⟨⟨_, rfl, Xz (t := annT t [_] ty0) rfl (Uk (ks := [_]) ⟨l20, Ug E.g0⟩ E.g0.row (Wp (k18.kdN (Nat.le_refl _))) (Nat.le_refl _))⟩, h, g⟩
set_option maxHeartbeats 2000000
theorem CkM.to {F t : Nd} (H : CkM F t) {n0 b : Nat} {S : CSt} {w : World} {v : Value} {N m0 : Nat} (Z : List Nat) (h : Chk F n0 b S w) (hk : Kd w (fun k => k < n0) t.kids v) (hb : Bd S N) (hc : N + count t ≤ 1000000) (hZ : ∀ j ∈ Z, j < w.heap.size) (hm : m0 ≤ w.heap.size) :
  Ret PP Wwa #[.pointer (some ⟨b, 0, none⟩), ndV t v] w fun r w' => (∃ p c, r = .tuple #[ndV ((ckT F t).mem S).1.1 (.slice p ((ckT F t).mem S).1.1.kids.length c), .bool ((ckT F t).mem S).1.2] ∧ m0 ≤ w.heap.size ∧ KdX w.heap.size Z w' ((ckT F t).mem S).1.1.kids (.slice p ((ckT F t).mem S).1.1.kids.length c)) ∧ Chk F n0 b ((ckT F t).mem S).2 w' ∧ GT mutR n0 w w' :=
 (H h hk hb hc).mono fun r w' hr => by
  obtain ⟨⟨u, e, p, c, e2, k⟩, h1, h2⟩ := hr
  subst e2
  exact ⟨⟨p, c, e, hm, KdN.x k hZ⟩, h1, h2⟩
theorem Zxe (F : Nd) (S : CSt) (t : Nd) : (lookR F S t).1.kids = [] := by
 unfold lookR
 cases findV S.vars t.text with
 | some v => rfl
 | none =>
  dsimp only
  cases decide (0 ≤ (findD F 6 t.text).2)
  ·cases decide (0 ≤ (findD F 4 t.text).2) <;> rfl
  ·rfl
theorem lookN {F : Nd} {S : CSt} {t : Nd} (lo : Nat) (w : World) : KdN lo w (lookR F S t).1.kids (.slice none 0 0) := by rw [Zxe]; exact Yka _ _
theorem Zof {F t : Nd} (H : FSh F) (K : ∀ i, i < t.kids.length → CkOk F (Zd t i)) (HC : t.kind = 30 → CkC F Uaa t (callR t (ckX F t))) (hx : exprB t = true) : CkC F Qp t (ckT F t).ex := by
 intro n0 b S w v N h hk0 hb hcn
 have est : (ckT F t).ex S = exR F t (ckX F t) S := by rw [Qw]; rfl
 rw [est]
 obtain ⟨p, c, rfl, _⟩ := id hk0
 have hlt := h.lt
 have ct := Jo t
 have g := GT.refl mutR n0 w
 refine Yp (m := 110) Xeb J J [(0, True, _), (1, True, _)] (Za J (Za J (Zj _))) ?_
 refine Ze (Zg (Wq J (Zk J) J ?_))
 intro b3 w3 N3
 have l3 := Xm N3 g.size
 have g := gtg g N3.g
 have h := h.grow (N3.g)
 have hk0 := hk0.grow (N3.g)
 have E := (Wo _).new N3
 refine Yh J Zm J ?_
 intro b4 w4 N4
 have l4 := Xm N4 g.size
 have g := gtg g N4.g
 have h := h.grow (N4.g)
 have hk0 := hk0.grow (N4.g)
 replace E := E.new N4
 refine Zb (kq (Ze (Zg (Yk Zc J J E.g1.row (Ya J (Zo Vg Yo (aqc J aq0) J) (Uw t _ _ _) ?_)))))
 rintro v13 w13 ⟨rfl, g13⟩
 refine ⟨fun _ => g13, ?_⟩
 have g := gtg g g13
 replace E := E.grow g13
 have h := h.grow (g13)
 have hk0 := hk0.grow (g13)
 refine Yh J Zm J ?_
 intro b5 w5 N5
 have l5 := Xm N5 g.size
 have g := gtg g N5.g
 have h := h.grow (N5.g)
 have hk0 := hk0.grow (N5.g)
 replace E := E.new N5
 refine Yt Zl J J J E.g0 ?_
 intro wS1 hgS1 _ BS
 have C5 := E.g0
 replace E := E.s0 hgS1 BS
 have g := Zy g hgS1 (by omega)
 have h := h.keep hgS1 C5 rfl (by omega)
 have hk0 := hk0.keep hgS1 (fun k hk _ e => by injection e with e; omega)
 refine Zb (kq (Ze (Ze (Zg (Zx Yd J (Yg Zu J (E.g2.at_ J) (Zb (kq (Yu (Ze (Zg (Xt J J (Zp J (Zb (kq (Yv J (fun h1 => ?_) (fun h1 => ?_)))))))))))))))))
 ·replace h1 : t.kind = 24 := of_decide_eq_true h1
  refine Ze (Zg (Zx Xa J (Zx Ws J (Vz Vb J J J E.g0 ?_))))
  intro wS2 hgS2 _ BS
  have C5 := E.g0
  replace E := E.s0 hgS2 BS
  have g := Zy g hgS2 (by omega)
  have h := h.keep hgS2 C5 rfl (by omega)
  refine Zb (kq (Ze (Zg (Yk Zc J J E.g0.row (Yt Zl J J J E.g1 ?_)))))
  intro wS3 hgS3 _ BS
  have C4 := E.g1
  replace E := E.s1 hgS3 BS
  have g := Zy g hgS3 (by omega)
  have h := h.keep hgS3 C4 rfl (by omega)
  refine Zb (kq (Zr (Xj J (Yy J Zc J (E.g1.row) (Yf)) ?_)))
  have e : exR F t (ckX F t) S = (annT t [] tInt, S) := by unfold exR; rw [Yfg h1]; rfl
  rw [e]; exact ⟨Xz (t := annT t [] tInt) rfl (Yka _ _), h, g⟩
 replace h1 : t.kind ≠ 24 := of_decide_eq_false h1
 refine Ze (Zg (Xt J J (Zp J (Zb (kq (Yv J (fun h2 => ?_) (fun h2 => ?_)))))))
 ·replace h2 : t.kind = 25 := of_decide_eq_true h2
  refine Ze (Zg (Zx Xa J (Zx Ws J (Vz Vb J J J E.g0 ?_))))
  intro wS4 hgS4 _ BS
  have C5 := E.g0
  replace E := E.s0 hgS4 BS
  have g := Zy g hgS4 (by omega)
  have h := h.keep hgS4 C5 rfl (by omega)
  refine Zb (kq (Ze (Zg (Yk Zc J J E.g0.row (Yt Zl J J J E.g1 ?_)))))
  intro wS5 hgS5 _ BS
  have C4 := E.g1
  replace E := E.s1 hgS5 BS
  have g := Zy g hgS5 (by omega)
  have h := h.keep hgS5 C4 rfl (by omega)
  refine Zb (kq (Zr (Xj J (Yy J Zc J (E.g1.row) (Yf)) ?_)))
  have e : exR F t (ckX F t) S = (annT t [] tBool, S) := by unfold exR; rw [Yeg h1, Yfg h2]; rfl
  rw [e]; exact ⟨Xz (t := annT t [] tBool) rfl (Yka _ _), h, g⟩
 replace h2 : t.kind ≠ 25 := of_decide_eq_false h2
 refine Ze (Zg (Xt J J (Zp J (Zb (kq (Yv J (fun h3 => ?_) (fun h3 => ?_)))))))
 ·replace h3 : t.kind = 26 := of_decide_eq_true h3
  refine Ze (Zg (Zx Xa J (Zx Ws J (Vz Vb J J J E.g0 ?_))))
  intro wS6 hgS6 _ BS
  have C5 := E.g0
  replace E := E.s0 hgS6 BS
  have g := Zy g hgS6 (by omega)
  have h := h.keep hgS6 C5 rfl (by omega)
  refine Zb (kq (Ze (Zg (Yk Zc J J E.g0.row (Yt Zl J J J E.g1 ?_)))))
  intro wS7 hgS7 _ BS
  have C4 := E.g1
  replace E := E.s1 hgS7 BS
  have g := Zy g hgS7 (by omega)
  have h := h.keep hgS7 C4 rfl (by omega)
  refine Zb (kq (Zr (Xj J (Yy J Zc J (E.g1.row) (Yf)) ?_)))
  have e : exR F t (ckX F t) S = (annT t [] tNil, S) := by unfold exR; rw [Yeg h1, Yeg h2, Yfg h3]; rfl
  rw [e]; exact ⟨Xz (t := annT t [] tNil) rfl (Yka _ _), h, g⟩
 replace h3 : t.kind ≠ 26 := of_decide_eq_false h3
 refine Ze (Zg (Xt J J (Zp J (Zb (kq (Yv J (fun h4 => ?_) (fun h4 => ?_)))))))
 ·replace h4 : t.kind = 38 := of_decide_eq_true h4
  refine Ze (Zg (Zt J (Yk Zc J J E.g2.row (Ya J (Zo Ygb Yo (aqc J (aqc J aq0)) J) (CkC.to (Uvd K h4 hx) [b3, b4, b5] h hk0 hb hcn (E.ltm (by simp [selB])) g.size) ?_))))
  rintro v35 w35 ⟨⟨p35, c35, rfl, q35, k35⟩, h, g35⟩
  refine ⟨nw1, ?_⟩
  have g := g.trans g35
  replace E := E.gt g35 rfl
  refine Yt Zl J J J E.g1 ?_
  intro wS8 hgS8 _ BS
  have C4 := E.g1
  replace E := E.s1 hgS8 BS
  have g := Zy g hgS8 (by omega)
  have h := h.keep hgS8 C4 rfl (by omega)
  have k35 := k35.keep hgS8 (by simp)
  refine Zb (kq (Zr (Xj J (Yy J Zc J (E.g1.row) (Yf)) ?_)))
  have hl := (sh38 h4 hx).1
  have e : exR F t (ckX F t) S = litR t (ckY F t) S := by
   unfold exR; rw [Yeg h1, Yeg h2, Yeg h3, Yfg h4]
   show litR t (ckX F t) S = _
   unfold litR; rw [Uo (show 0 < t.kids.length by omega)]; rfl
  rw [e]; exact ⟨Xz rfl (k35.kdN q35), h, g⟩
 replace h4 : t.kind ≠ 38 := of_decide_eq_false h4
 refine Ze (Zg (Xt J J (Zp J (Zb (kq (Yv J (fun h5 => ?_) (fun h5 => ?_)))))))
 ·replace h5 : t.kind = 30 := of_decide_eq_true h5
  refine Ze (Zg (Zt J (Yk Zc J J E.g2.row (Ya J (Zo Vxb Yo (aqc J (aqc J aq0)) J) (CkC.to (HC h5) [b3, b4, b5] h hk0 hb hcn (E.ltm (by simp [selB])) g.size) ?_))))
  rintro v40 w40 ⟨⟨p40, c40, rfl, q40, k40⟩, h, g40⟩
  refine ⟨nw1, ?_⟩
  have g := g.trans g40
  replace E := E.gt g40 rfl
  refine Yt Zl J J J E.g1 ?_
  intro wS9 hgS9 _ BS
  have C4 := E.g1
  replace E := E.s1 hgS9 BS
  have g := Zy g hgS9 (by omega)
  have h := h.keep hgS9 C4 rfl (by omega)
  have k40 := k40.keep hgS9 (by simp)
  refine Zb (kq (Zr (Xj J (Yy J Zc J (E.g1.row) (Yf)) ?_)))
  have e : exR F t (ckX F t) S = callR t (ckX F t) S := by unfold exR; rw [Yeg h1, Yeg h2, Yeg h3, Yeg h4, Yfg h5]; rfl
  rw [e]; exact ⟨Xz rfl (k40.kdN q40), h, g⟩
 replace h5 : t.kind ≠ 30 := of_decide_eq_false h5
 refine Ze (Zg (Xt J J (Zp J (Zb (kq (Yv J (fun h6 => ?_) (fun h6 => ?_)))))))
 ·replace h6 : t.kind = 27 := of_decide_eq_true h6
  refine Ze (Zg (Zt J (Yk Zc J J E.g2.row (Ya J (Zo Yva Yo (aqc J (aqc J aq0)) J) (Qgb H t _ _ h hb (by omega)) ?_))))
  rintro v46 w46 ⟨rfl, g46⟩
  refine ⟨fun _ => g46, ?_⟩
  have g := gtg g g46
  replace E := E.grow g46
  have h := h.grow (g46)
  refine Zt J (Qc J J (Qc J J (Yh J Zm J ?_)))
  intro b6 w6 N6
  have l6 := Xm N6 g.size
  have g := gtg g N6.g
  have h := h.grow (N6.g)
  replace E := E.new N6
  refine Yt Zl J J J E.g0 ?_
  intro wS10 hgS10 _ BS
  have C6 := E.g0
  replace E := E.s0 hgS10 BS
  have g := Zy g hgS10 (by omega)
  have h := h.keep hgS10 C6 rfl (by omega)
  refine Zp J (Zb (kq (Ze (Ze (Zg (Zt J (Wia J (Zb (kq (Yv J (fun h7 => ?_) (fun h7 => ?_)))))))))))
  ·have hr : (lookR F S t).2 = false := by simpa using h7
   refine Zg (Zt J (Zx Yw J (Yg Zu J (E.g3.at_ J) (Ya J (Zo Yz Yo (aqc J (aqc J (aqc J aq0))) J) (Vj t.pos 5 h) ?_))))
   rintro v54 w54 ⟨rfl, h, g54⟩
   refine ⟨nw1, ?_⟩
   have g := g.trans g54
   replace E := E.gt g54 rfl
   refine Zb (kq (Ze (Zg (Yk Zc J J E.g0.row (Yt Zl J J J E.g2 ?_)))))
   intro wS11 hgS11 _ BS
   have C4 := E.g2
   replace E := E.s2 hgS11 BS
   have g := Zy g hgS11 (by omega)
   have h := h.keep hgS11 C4 rfl (by omega)
   refine Zb (kq (Zr (Xj J (Yy J Zc J (E.g2.row) (Yf)) ?_)))
   have e : exR F t (ckX F t) S = ((lookR F S t).1, failS t.pos 5 S) := by
    unfold exR; rw [Yeg h1, Yeg h2, Yeg h3, Yeg h4, Yeg h5, Yfg h6]
    show ((lookR F S t).1, bif (lookR F S t).2 then failU (Qr (lookR F S t).1.ty) t.pos 7 S else failS t.pos 5 S) = _
    rw [hr]; rfl
   rw [e]; exact ⟨Xz (t := (lookR F S t).1) rfl (lookN _ _), h, g⟩
  have hr : (lookR F S t).2 = true := by simpa using h7
  refine Ze (Zg (Zx Xa J (Yk Zs J J (E.g0.row.part 5 2) (Xk J (Zo Xha Yo (aqc J aq0) J) (Uoa _ _) (fun w57 g57 => ?_)))))
  have g := gtg g g57
  replace E := E.grow g57
  have h := h.grow (g57)
  refine Wia J (Zb (kq (Yv J (fun h8 => ?_) (fun h8 => ?_))))
  ·have hv : Qr (lookR F S t).1.ty = false := by simpa using h8
   refine Zg (Zt J (Zx Yw J (Yg Zu J (E.g3.at_ J) (Ya J (Zo Yz Yo (aqc J (aqc J (aqc J aq0))) J) (Vj t.pos 7 h) ?_))))
   rintro v62 w62 ⟨rfl, h, g62⟩
   refine ⟨nw1, ?_⟩
   have g := g.trans g62
   replace E := E.gt g62 rfl
   refine Zb (kq (Ze (Zg (Yk Zc J J E.g0.row (Yt Zl J J J E.g2 ?_)))))
   intro wS12 hgS12 _ BS
   have C4 := E.g2
   replace E := E.s2 hgS12 BS
   have g := Zy g hgS12 (by omega)
   have h := h.keep hgS12 C4 rfl (by omega)
   refine Zb (kq (Zr (Xj J (Yy J Zc J (E.g2.row) (Yf)) ?_)))
   have e : exR F t (ckX F t) S = ((lookR F S t).1, failS t.pos 7 S) := by
    unfold exR; rw [Yeg h1, Yeg h2, Yeg h3, Yeg h4, Yeg h5, Yfg h6]
    show ((lookR F S t).1, bif (lookR F S t).2 then failU (Qr (lookR F S t).1.ty) t.pos 7 S else failS t.pos 5 S) = _
    rw [hr, hv]; rfl
   rw [e]; exact ⟨Xz (t := (lookR F S t).1) rfl (lookN _ _), h, g⟩
  have hv : Qr (lookR F S t).1.ty = true := by simpa using h8
  refine Yc (kq (Ze (Zg (Yk Zc J J E.g0.row (Yt Zl J J J E.g2 ?_)))))
  intro wS13 hgS13 _ BS
  have C4 := E.g2
  replace E := E.s2 hgS13 BS
  have g := Zy g hgS13 (by omega)
  have h := h.keep hgS13 C4 rfl (by omega)
  refine Zb (kq (Zr (Xj J (Yy J Zc J (E.g2.row) (Yf)) ?_)))
  have e : exR F t (ckX F t) S = ((lookR F S t).1, S) := by
   unfold exR; rw [Yeg h1, Yeg h2, Yeg h3, Yeg h4, Yeg h5, Yfg h6]
   show ((lookR F S t).1, bif (lookR F S t).2 then failU (Qr (lookR F S t).1.ty) t.pos 7 S else failS t.pos 5 S) = _
   rw [hr, hv]; rfl
  rw [e]; exact ⟨Xz (t := (lookR F S t).1) rfl (lookN _ _), h, g⟩
 replace h6 : t.kind ≠ 27 := of_decide_eq_false h6
 refine Ze (Zg (Xt J J (Zp J (Zb (kq (Yv J (fun h9 => ?_) (fun h9 => ?_)))))))
 ·replace h9 : t.kind = 28 := of_decide_eq_true h9
  refine Ze (Zg (Zt J (Yk Zc J J E.g2.row (Ya J (Zo Ywa Yo (aqc J (aqc J aq0)) J) (CkM.to (Uvc K h9 hx) [b3, b4, b5] h hk0 hb hcn (E.ltm (by simp [selB])) g.size) ?_))))
  rintro v69 w69 ⟨⟨p69, c69, rfl, q69, k69⟩, h, g69⟩
  refine ⟨nw1, ?_⟩
  have g := g.trans g69
  replace E := E.gt g69 rfl
  refine Zt J (Qc J J (Qc J J (Yh J Zm J ?_)))
  intro b8 w8 N8
  have l8 := Xm N8 g.size
  have k69 := k69.new N8
  have g := gtg g N8.g
  have h := h.grow (N8.g)
  replace E := E.new N8
  refine Yt Zl J J J E.g0 ?_
  intro wS14 hgS14 _ BS
  have C8 := E.g0
  replace E := E.s0 hgS14 BS
  have g := Zy g hgS14 (by omega)
  have h := h.keep hgS14 C8 rfl (by omega)
  have k69 := k69.keep hgS14 (by simp)
  refine Zp J (Zb (kq (Ze (Ze (Zg (Zt J (Zt J (Zn J J J (fun _ => Zv Xa (Zk J)) (Yj J J J (Xd Zs (Zq J id) J (fun _ => E.g0.row.part 5 2)) (We J J J (fun _ => (Zo Xha Yo (Xf (Zq J id) (Xw)) J)) (fun hc => Uoa _ _) (fun w76 g76 => ?_)))))))))))
  have g := gtg g g76
  replace E := E.grow g76
  have h := h.grow (g76)
  have k69 := k69.grow (g76)
  refine Zn J J J (fun _ => Xqa (Zq J id)) (Yi J (fun _ => Zz (Zk J) (Zq J id)) (Zb (kq (Yv J (fun h10 => ?_) (fun h10 => ?_)))))
  ·(try simp only [Xq] at h10)
   refine Zg (Zt J (Zx Yw J (Yg Zu J (E.g3.at_ J) (Ya J (Zo Yz Yo (aqc J (aqc J (aqc J aq0))) J) (Vj t.pos 7 h) ?_))))
   rintro v82 w82 ⟨rfl, h, g82⟩
   refine ⟨nw1, ?_⟩
   have g := g.trans g82
   replace E := E.gt g82 rfl
   have k69 := k69.gt g82
   refine Zb (kq (Ze (Zg (Yk Zc J J E.g0.row (Yt Zl J J J E.g2 ?_)))))
   intro wS15 hgS15 _ BS
   have C4 := E.g2
   replace E := E.s2 hgS15 BS
   have g := Zy g hgS15 (by omega)
   have h := h.keep hgS15 C4 rfl (by omega)
   have k69 := k69.keep hgS15 (by simp)
   refine Zb (kq (Zr (Xj J (Yy J Zc J (E.g2.row) (Yf)) ?_)))
   have e : exR F t (ckX F t) S = (((ckT F t).mem S).1.1, failU (!(((ckT F t).mem S).1.2 && !Qr ((ckT F t).mem S).1.1.ty)) t.pos 7 ((ckT F t).mem S).2) := by
    have em : ((ckT F t).mem S) = memR F t (ckX F t) S := by rw [Qw]; rfl
    rw [em]; unfold exR; rw [Yeg h1, Yeg h2, Yeg h3, Yeg h4, Yeg h5, Yeg h6, Yfg h9]; rfl
   rw [e, h10]; exact ⟨Xz rfl (k69.kdN q69), h, g⟩
  refine Yc (kq (Ze (Zg (Yk Zc J J E.g0.row (Yt Zl J J J E.g2 ?_)))))
  intro wS16 hgS16 _ BS
  have C4 := E.g2
  replace E := E.s2 hgS16 BS
  have g := Zy g hgS16 (by omega)
  have h := h.keep hgS16 C4 rfl (by omega)
  have k69 := k69.keep hgS16 (by simp)
  refine Zb (kq (Zr (Xj J (Yy J Zc J (E.g2.row) (Yf)) ?_)))
  have e : exR F t (ckX F t) S = (((ckT F t).mem S).1.1, failU (!(((ckT F t).mem S).1.2 && !Qr ((ckT F t).mem S).1.1.ty)) t.pos 7 ((ckT F t).mem S).2) := by
   have em : ((ckT F t).mem S) = memR F t (ckX F t) S := by rw [Qw]; rfl
   rw [em]; unfold exR; rw [Yeg h1, Yeg h2, Yeg h3, Yeg h4, Yeg h5, Yeg h6, Yfg h9]; rfl
  rw [e, h10]; exact ⟨Xz rfl (k69.kdN q69), h, g⟩
 replace h9 : t.kind ≠ 28 := of_decide_eq_false h9
 refine Ze (Zg (Xt J J (Zp J (Zb (kq (Yv J (fun h11 => ?_) (fun h11 => ?_)))))))
 ·replace h11 : t.kind = 34 := of_decide_eq_true h11
  obtain ⟨fv, sv, sn, h⟩ := h
  refine Ze (Ze (Ud (rowR none) [3, 3, 3, 0, 3, 0, 1, 3, 3, 3, 1, 2, 3] [0, 1, 3, 7, 0, 16, 63, 127, 255, 255, 0, 1535, 4095] mix (by kernel_rfl) [0, 1, 2, 3, 4, 5, 6, 7, 8, 9, 10, 11, 12] J ?_))
  have g := gtd g
  replace E := E.dr
  have h := h.grow (G.drew _)
  refine Xc 0 J J (fun _ => Yl (Zk J)) (Xc 1 J J (fun _ => Jl (Zk J)) (Xc 2 J J (fun _ => Zv Vw (Zk J)) (Vk 3 J J (fun w1 hx => Xd Zc (Zk J) J (fun _ => (h.B.keep hx (by intro q; first | (injection q with q; omega) | cases q)).row.part 0 9)) (Xc 4 J J (fun _ => Zv Ym (Zk J)) (Vk 5 J J (fun w1 hx => Ye Yr (Zk J) (fun _ => (E.g2.keep hx (fun h => nomatch h)).at_ J)) (Xwa 6 10 J J ?_ ?_))))))
  ·refine Xg (L' := [7, 8, 9, 10, 11, 12]) [3, 3, 3, 0, 3, 0, 1, 3, 3, 3, 1, 2, 3] J J J ?_
   refine Ya J (Zo Qy Yo (aqc J (aqc J (aqc J aq0))) J) (Yca F fv _ _ 2 t.text h.kF h.hF) ?_
   rintro v93 w93 ⟨⟨p93, c93, rfl, hk93⟩, g93⟩
   refine ⟨fun _ => g93, ?_⟩
   have g := gtg g g93
   replace E := E.grow g93
   have h := h.grow (g93)
   refine Wa ((g93).only _) ?_
   refine Xc 7 J J (fun _ => Yl (Zk J)) (Xc 8 J J (fun _ => Vf (Zk J) J) (Xc 9 J J (fun _ => Vf (Zk J) J) (Xo 10 J J ?_)))
   refine Xg (L' := [11, 12]) [3, 3, 3, 0, 3, 0, 1, 3, 3, 3, 1, 2, 3] J J J ?_
   refine Yh J Zm J ?_
   intro b10 w10 N10
   have l10 := Xm N10 g.size
   have g := gtg g N10.g
   have h := h.grow (N10.g)
   replace E := E.new N10
   refine Wa ((N10.g).only _) ?_
   refine Xo 11 J J ?_
   refine Wt (L' := [12]) [3, 3, 3, 0, 3, 0, 1, 3, 3, 3, 1, 2, 3] J J J J ?_
   refine Yt Zl J J J E.g0 ?_
   intro wS17 hgS17 _ BS
   have C10 := E.g0
   replace E := E.s0 hgS17 BS
   have g := Zy g hgS17 (by omega)
   have h := h.keep hgS17 C10 rfl (by omega)
   refine Vm ?_
   refine Xc 12 J J (fun _ => Wy (Zk J)) (Uq [(0, _, _), (3, _, _), (4, _, _), (5, _, _), (11, _, _)] (Za J (Za J (Za J (Za J (Za J (Zj _)))))) (Up (kq (Ze (Zg (Zt J (Zfa J J (Zb (kq (Yv J (fun h12 => ?_) (fun h12 => ?_)))))))))))
   ·have hr : decide ((findD F 2 t.text).2 < 0) = true := by simpa using h12
    refine Zg (Zt J (Zx Yw J (Yg Zu J (E.g3.at_ J) (Ya J (Zo Yz Yo (aqc J (aqc J (aqc J aq0))) J) (Vj t.pos 5 h.chk) ?_))))
    rintro v101 w101 ⟨rfl, h, g101⟩
    refine ⟨nw1, ?_⟩
    have g := g.trans g101
    replace E := E.gt g101 rfl
    refine Zb (kq (Ze (Zg (Zx Ym J (Yg Yr J (E.g3.at_ J) (Uc Yq Xv (pqc J (pqc J pq0)) J J (Zx Xa J (Ww J Yn (Zk J) (Zk J) J J E.g1 J J ?_))))))))
    intro wS18 hgS18 _ BS
    have C5 := E.g1
    replace E := E.s1 hgS18 BS
    have g := Zy g hgS18 (by omega)
    have h := h.keep hgS18 C5 rfl (by omega)
    refine Zb (kq (Ze (Zg (Yk Zc J J E.g1.row (Yt Zl J J J E.g2 ?_)))))
    intro wS19 hgS19 _ BS
    have C4 := E.g2
    replace E := E.s2 hgS19 BS
    have g := Zy g hgS19 (by omega)
    have h := h.keep hgS19 C4 rfl (by omega)
    refine Zb (kq (Zr (Xj J (Yy J Zc J (E.g2.row) (Yf)) ?_)))
    have e : exR F t (ckX F t) S = (annT t [] ⟨4, t.text⟩, failS t.pos 5 S) := by
     unfold exR; rw [Yeg h1, Yeg h2, Yeg h3, Yeg h4, Yeg h5, Yeg h6, Yeg h9, Yfg h11]
     show (annT t [] ⟨4, t.text⟩, failU (!decide ((findD F 2 t.text).2 < 0)) t.pos 5 S) = _
     rw [hr]; rfl
    rw [e]; exact ⟨Xz (t := annT t [] ⟨4, t.text⟩) rfl (Yka _ _), h, g⟩
   have hr : decide ((findD F 2 t.text).2 < 0) = false := by simpa using h12
   refine Yc (kq (Ze (Zg (Zx Ym J (Yg Yr J (E.g3.at_ J) (Uc Yq Xv (pqc J (pqc J pq0)) J J (Zx Xa J (Ww J Yn (Zk J) (Zk J) J J E.g1 J J ?_))))))))
   intro wS20 hgS20 _ BS
   have C5 := E.g1
   replace E := E.s1 hgS20 BS
   have g := Zy g hgS20 (by omega)
   have h := h.keep hgS20 C5 rfl (by omega)
   refine Zb (kq (Ze (Zg (Yk Zc J J E.g1.row (Yt Zl J J J E.g2 ?_)))))
   intro wS21 hgS21 _ BS
   have C4 := E.g2
   replace E := E.s2 hgS21 BS
   have g := Zy g hgS21 (by omega)
   have h := h.keep hgS21 C4 rfl (by omega)
   refine Zb (kq (Zr (Xj J (Yy J Zc J (E.g2.row) (Yf)) ?_)))
   have e : exR F t (ckX F t) S = (annT t [] ⟨4, t.text⟩, S) := by
    unfold exR; rw [Yeg h1, Yeg h2, Yeg h3, Yeg h4, Yeg h5, Yeg h6, Yeg h9, Yfg h11]
    show (annT t [] ⟨4, t.text⟩, failU (!decide ((findD F 2 t.text).2 < 0)) t.pos 5 S) = _
    rw [hr]; rfl
   rw [e]; exact ⟨Xz (t := annT t [] ⟨4, t.text⟩) rfl (Yka _ _), h.chk, g⟩
  ·refine Xg (L' := [6, 7, 8, 9, 11, 12]) [3, 3, 3, 0, 3, 0, 1, 3, 3, 3, 1, 2, 3] J J J ?_
   refine Yh J Zm J ?_
   intro b10 w10 N10
   have l10 := Xm N10 g.size
   have g := gtg g N10.g
   have h := h.grow (N10.g)
   replace E := E.new N10
   refine Wa ((N10.g).only _) ?_
   refine Xo 6 J J ?_
   refine Xg (L' := [7, 8, 9, 11, 12]) [3, 3, 3, 0, 3, 0, 1, 3, 3, 3, 1, 2, 3] J J J ?_
   refine Ya J (Zo Qy Yo (aqc J (aqc J (aqc J aq0))) J) (Yca F fv _ _ 2 t.text h.kF h.hF) ?_
   rintro v93 w93 ⟨⟨p93, c93, rfl, hk93⟩, g93⟩
   refine ⟨fun _ => g93, ?_⟩
   have g := gtg g g93
   replace E := E.grow g93
   have h := h.grow (g93)
   refine Wa ((g93).only _) ?_
   refine Xc 7 J J (fun _ => Yl (Zk J)) (Xc 8 J J (fun _ => Vf (Zk J) J) (Xc 9 J J (fun _ => Vf (Zk J) J) (Xo 11 J J ?_)))
   refine Wt (L' := [12]) [3, 3, 3, 0, 3, 0, 1, 3, 3, 3, 1, 2, 3] J J J J ?_
   refine Yt Zl J J J E.g0 ?_
   intro wS17 hgS17 _ BS
   have C10 := E.g0
   replace E := E.s0 hgS17 BS
   have g := Zy g hgS17 (by omega)
   have h := h.keep hgS17 C10 rfl (by omega)
   refine Vm ?_
   refine Xc 12 J J (fun _ => Wy (Zk J)) (Uq [(0, _, _), (3, _, _), (4, _, _), (5, _, _), (11, _, _)] (Za J (Za J (Za J (Za J (Za J (Zj _)))))) (Up (kq (Ze (Zg (Zt J (Zfa J J (Zb (kq (Yv J (fun h12 => ?_) (fun h12 => ?_)))))))))))
   ·have hr : decide ((findD F 2 t.text).2 < 0) = true := by simpa using h12
    refine Zg (Zt J (Zx Yw J (Yg Zu J (E.g3.at_ J) (Ya J (Zo Yz Yo (aqc J (aqc J (aqc J aq0))) J) (Vj t.pos 5 h.chk) ?_))))
    rintro v101 w101 ⟨rfl, h, g101⟩
    refine ⟨nw1, ?_⟩
    have g := g.trans g101
    replace E := E.gt g101 rfl
    refine Zb (kq (Ze (Zg (Zx Ym J (Yg Yr J (E.g3.at_ J) (Uc Yq Xv (pqc J (pqc J pq0)) J J (Zx Xa J (Ww J Yn (Zk J) (Zk J) J J E.g1 J J ?_))))))))
    intro wS18 hgS18 _ BS
    have C5 := E.g1
    replace E := E.s1 hgS18 BS
    have g := Zy g hgS18 (by omega)
    have h := h.keep hgS18 C5 rfl (by omega)
    refine Zb (kq (Ze (Zg (Yk Zc J J E.g1.row (Yt Zl J J J E.g2 ?_)))))
    intro wS19 hgS19 _ BS
    have C4 := E.g2
    replace E := E.s2 hgS19 BS
    have g := Zy g hgS19 (by omega)
    have h := h.keep hgS19 C4 rfl (by omega)
    refine Zb (kq (Zr (Xj J (Yy J Zc J (E.g2.row) (Yf)) ?_)))
    have e : exR F t (ckX F t) S = (annT t [] ⟨4, t.text⟩, failS t.pos 5 S) := by
     unfold exR; rw [Yeg h1, Yeg h2, Yeg h3, Yeg h4, Yeg h5, Yeg h6, Yeg h9, Yfg h11]
     show (annT t [] ⟨4, t.text⟩, failU (!decide ((findD F 2 t.text).2 < 0)) t.pos 5 S) = _
     rw [hr]; rfl
    rw [e]; exact ⟨Xz (t := annT t [] ⟨4, t.text⟩) rfl (Yka _ _), h, g⟩
   have hr : decide ((findD F 2 t.text).2 < 0) = false := by simpa using h12
   refine Yc (kq (Ze (Zg (Zx Ym J (Yg Yr J (E.g3.at_ J) (Uc Yq Xv (pqc J (pqc J pq0)) J J (Zx Xa J (Ww J Yn (Zk J) (Zk J) J J E.g1 J J ?_))))))))
   intro wS20 hgS20 _ BS
   have C5 := E.g1
   replace E := E.s1 hgS20 BS
   have g := Zy g hgS20 (by omega)
   have h := h.keep hgS20 C5 rfl (by omega)
   refine Zb (kq (Ze (Zg (Yk Zc J J E.g1.row (Yt Zl J J J E.g2 ?_)))))
   intro wS21 hgS21 _ BS
   have C4 := E.g2
   replace E := E.s2 hgS21 BS
   have g := Zy g hgS21 (by omega)
   have h := h.keep hgS21 C4 rfl (by omega)
   refine Zb (kq (Zr (Xj J (Yy J Zc J (E.g2.row) (Yf)) ?_)))
   have e : exR F t (ckX F t) S = (annT t [] ⟨4, t.text⟩, S) := by
    unfold exR; rw [Yeg h1, Yeg h2, Yeg h3, Yeg h4, Yeg h5, Yeg h6, Yeg h9, Yfg h11]
    show (annT t [] ⟨4, t.text⟩, failU (!decide ((findD F 2 t.text).2 < 0)) t.pos 5 S) = _
    rw [hr]; rfl
   rw [e]; exact ⟨Xz (t := annT t [] ⟨4, t.text⟩) rfl (Yka _ _), h.chk, g⟩
 replace h11 : t.kind ≠ 34 := of_decide_eq_false h11
 refine Yc (kq (Ze (Zg (Zt J (Yk Zc J J E.g2.row (Ya J (Zo Jja Yo (aqc J (aqc J aq0)) J) (CkC.to (Jrf K hx ⟨h1, h2, h3, h6, h11, h9, h5, h4⟩) [b3, b4, b5] h hk0 hb hcn (E.ltm (by simp [selB])) g.size) ?_))))))
 rintro v109 w109 ⟨⟨p109, c109, rfl, q109, k109⟩, h, g109⟩
 refine ⟨nw1, ?_⟩
 have g := g.trans g109
 replace E := E.gt g109 rfl
 refine Yt Zl J J J E.g1 ?_
 intro wS22 hgS22 _ BS
 have C4 := E.g1
 replace E := E.s1 hgS22 BS
 have g := Zy g hgS22 (by omega)
 have h := h.keep hgS22 C4 rfl (by omega)
 have k109 := k109.keep hgS22 (by simp)
 refine Zb (kq (Zr (Xj J (Yy J Zc J (E.g1.row) (Yf)) ?_)))
 have hl := (Zjf hx ⟨h1, h2, h3, h6, h11, h9, h5, h4⟩).1
 have e : exR F t (ckX F t) S = opR t (ckY F t) S := by
  have e0 : exR F t (ckX F t) S = opR t (ckX F t) S := by unfold exR; rw [Yeg h1, Yeg h2, Yeg h3, Yeg h4, Yeg h5, Yeg h6, Yeg h9, Yeg h11]; rfl
  rw [e0]
  unfold opR; rw [Uo (show 0 < t.kids.length by omega)]
  by_cases k29 : t.kind = 29
  ·have := (sh29 k29 hx).1
   rw [Uo (show 1 < t.kids.length by omega)]; rfl
  by_cases k32 : t.kind = 32
  ·have := (sh32 k32 hx).2.1
   rw [Uo (show 1 < t.kids.length by omega)]; rfl
  rw [Yeg k29, Yeg k32]; rfl
 rw [e]; exact ⟨Xz rfl (k109.kdN q109), h, g⟩
def Byt (w : World) (b : Nat) (e : TypeId) (l : List UInt8) : Prop := ∃ cs lo hi, w.heap[b]? = some (.cells cs e (lo, hi)) ∧ (∀ (j : Nat) (v : Value), (Lib.byteCells l)[j]? = some v → cs[j]? = some v) ∧ (hi = 0 ∨ l.length ≤ lo)
theorem Byt.row {w : World} {b : Nat} {e : TypeId} {l : List UInt8} (h : Byt w b e l) : RowAt w b 0 (Lib.byteCells l) := by
 obtain ⟨cs, lo, hi, hb, hc, _⟩ := h
 intro j v hj
 rw [Nat.zero_add]
 simp [World.cell?, hb, hc j v hj]
theorem Byt.lt {w : World} {b : Nat} {e : TypeId} {l : List UInt8} (h : Byt w b e l) : b < w.heap.size := by
 obtain ⟨cs, lo, hi, hb, _⟩ := h
 exact (Array.getElem?_eq_some_iff.mp hb).1
theorem Byt.keep {w w1 : World} {b : Nat} {e : TypeId} {l : List UInt8} {row : Option Nat} (h : Byt w b e l) (hg : w.grownBy w1 row) (hne : some b ≠ row) : Byt w1 b e l := by
 have hlt := h.lt
 obtain ⟨cs, lo, hi, hb, hc, hf⟩ := h
 exact ⟨cs, lo, hi, by obtain ⟨_, _, _, _, ho⟩ := hg; rw [ho b hlt hne]; exact hb, hc, hf⟩
theorem Byt.grow {w w1 : World} {b : Nat} {e : TypeId} {l : List UInt8} (h : Byt w b e l) (hg : G w w1) : Byt w1 b e l := h.keep (hg.only none) (by intro e; cases e)
section
variable {P : Program} {n : Nat} {σ : List Ent} {c : Prop} {wb : World} {ty : TypeId}
end
section
variable {P : Program} {Z : List PanicEntry → Act → World → Prop} {ops : List Oper} {cl : List Nat} {lv : List Bool} {W0 : World} {n : Nat} {K : Act → World → Prop} {k : Nat} {rest : List Oper} {σ : List Ent} {w : World} {d : Nat} {ty : TypeId} {pos : String} {after : Array Edge}
theorem Zvd {t e z by_ : Nat} (hb : (!Nat.beq (clOf cl k) 0 && !Nat.beq (clOf cl k) 3 && Nat.blt d n) = true) (ht : tyElem P t = some (e, z, by_))
  (h : ∀ b w1, b = w.heap.size → (∀ base, base ≤ w.heap.size → w1.ownsRow base e z (.slice (some ⟨b, 0, none⟩) 0 0) 0 []) → G w w1 → SR P Z ops cl lv W0 n K (k + 1) rest ((d, True, .slice (some ⟨b, 0, none⟩) 0 0) :: σ) w1) :
  SR P Z ops cl lv W0 n K k (⟨some d, .buildSlice t 0 #[], ty, pos, after, none⟩ :: rest) σ w := by
 obtain ⟨hu, i, hi, hsz, hbyi⟩ := Jc ht
 have hN := Yra w e []
 refine Uwb hb (w' := w.alloc (.cells #[] e)) (fun d pos after g a ha _ => ?_) (fun _ => hN.g) (h _ _ J (fun base hbase => World.ownsRow_lit w #[] 0 hbase (Nat.zero_le _) (by simp)) hN.g)
 have hr0 : Array.range 0 = #[] := by decide
 simp [execOp, Instr.buildSlice, run_underlying hu, Qnb hi, Instr.fill, newRow, hr0]
theorem Zye {t e z by_ m q cp b : Nat} {x y : Operand} {o : Option Addr} (hb : (Nat.beq (clOf cl k) 2 && Nat.blt d n) = true) (ht : tyElem P t = some (e, z, by_)) (hx : Ev n σ True x (.slice (some ⟨b, 0, none⟩) m cp)) (hm : m ≤ cp) (hy : Ev n σ True y (.slice o 0 q))
  (h : SR P Z ops cl lv W0 n K (k + 1) rest ((d, True, .slice (some ⟨b, 0, none⟩) m cp) :: σ) w) :
  SR P Z ops cl lv W0 n K k (⟨some d, .call { callee := .builtin .append, args := #[x, y], argTypes := #[t, t] }, ty, pos, after, none⟩ :: rest) σ w := by
 obtain ⟨hu, i, hi, hsz, hbyi⟩ := Jc ht
 simp only [Bool.and_eq_true] at hb
 have hc := Nat.eq_of_beq_eq_true hb.1
 refine Uwb (w' := w) (by rw [hc, hb.2]; rfl) (fun d pos after g a ha _ => ?_) (fun hh => by omega) h
 have hr : (Builtin.append_ #[t, t] ty #[.slice (some ⟨b, 0, none⟩) m cp, .slice o 0 q]).run P w = .ok (.slice (some ⟨b, 0, none⟩) m cp) w := by
  cases o <;> simp [Builtin.append_, run_underlying hu, Qnb hi, Builtin.lenOf, Builtin.firstCells, hm, loadCells, loadCellsFrom, storeCells]
 simp only [execOp, resolve, invoke, builtin, Sem.run_bind, Sem.run_pure, Result.andThen_ok, List.map_toArray, List.map_cons, List.map_nil, hx a ha trivial, hy a ha trivial, hr]
theorem Wfd (w : World) (row : Option Nat) : w.grownBy w row := (G.refl w).only row
theorem Uwc {t e z by_ base m q q' cp b : Nat} {x y : Operand} {zv : Value} {xs news : List Value} {o : Option Addr} (hb : (Nat.beq (clOf cl k) 2 && Nat.blt d n) = true) (ht : tyElem P t = some (e, z, by_)) (hzv : zeroOf P e = some zv)
  (hzs : zv.cells.size = z) (hz0 : 0 < z) (hx : Ev n σ True x (.slice (some ⟨b, 0, none⟩) m cp)) (hown : w.ownsRow base e z (.slice (some ⟨b, 0, none⟩) m cp) m xs) (hy : Ev n σ True y (.slice o q q')) (hl : news.length = q * z) (hn : 0 < q → ∃ b' o', o = some ⟨b', o', none⟩ ∧ RowAt w b' o' news) (h1 : ∀ u ∈ news, u.oneCell' = true)
  (h63 : m + q ≤ maxLen) (hby : (m + q) * by_ ≤ 140737488355328) (hbase : base ≤ w.heap.size)
  (h : ∀ a' c' w', w'.ownsRow base e z (.slice a' (m + q) c') (m + q) (xs ++ news) → w.grownBy w' (Value.slice (some ⟨b, 0, none⟩) m cp).ownBlock → SR P Z ops cl lv W0 n K (k + 1) rest ((d, True, .slice a' (m + q) c') :: σ) w') :
  SR P Z ops cl lv W0 n K k (⟨some d, .call { callee := .builtin .append, args := #[x, y], argTypes := #[t, t] }, ty, pos, after, none⟩ :: rest) σ w := by
 rcases Nat.eq_zero_or_pos q with h0 | h0
 ·subst h0
  have hnil : news = [] := List.eq_nil_of_length_eq_zero (by simpa using hl)
  subst hnil
  obtain ⟨a, c, hv, hmc⟩ := Zxb hown
  injection hv with _ _ hv
  subst hv
  refine Zye hb ht hx hmc hy ?_
  exact h _ _ w (by simpa using hown) (Wfd w _)
 ·obtain ⟨b', o', rfl, hr⟩ := hn h0
  obtain ⟨hu, i, hi, hsz, hbyi⟩ := Jc ht
  obtain ⟨i', hi', hz'⟩ := Ula hzv
  obtain rfl : i = i' := Option.some.inj (hi.symm.trans hi')
  simp only [Bool.and_eq_true] at hb
  have hc := Nat.eq_of_beq_eq_true hb.1
  obtain ⟨s', w', r1, r2, r3, _⟩ := run_append_own (P := P) w base t ty e i zv z by_ hu hi hz' hsz hbyi hzs hz0 _ m xs hown ⟨b', o', none⟩ q q' news hl (fun j u hj => by rw [Addr.add_lit]; exact hr j u hj) h1 h63 hby hbase
  obtain ⟨a', c', hs'⟩ : ∃ a' c', s' = .slice a' (m + q) c' := by
   rcases r2.2 with ⟨q1, q2⟩ | ⟨g, cap, cur, q1, _⟩
   ·exact ⟨none, 0, by rw [q1, q2]⟩
   ·exact ⟨_, cap, q1⟩
  subst hs'
  refine Uwb (w' := w') (by rw [hc, hb.2]; rfl) (fun d pos after g a ha _ => ?_) (fun hh => by omega) (h a' c' w' r2 r3)
  simp only [execOp, resolve, invoke, builtin, Sem.run_bind, Sem.run_pure, Result.andThen_ok, List.map_toArray, List.map_cons, List.map_nil, hx a ha trivial, hy a ha trivial, r1]
end
end Go.Rk
