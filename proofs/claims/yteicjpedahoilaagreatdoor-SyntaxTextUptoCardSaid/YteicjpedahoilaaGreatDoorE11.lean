/- Merged texts of one road: Prb, Prc, LayB, Prd, Pro. Conditions: each text's own. -/
import Derived.Test.YteicjpedahoilaaGreatDoorE10
import Derived.Shelf.Lays
import Derived.Test.YteicjpedahoilaaGreatDoorE02
import Derived.Shelf.Strings.Builder1
import Derived.Test.YteicjpedahoilaaGreatDoorE08
set_option linter.unusedSimpArgs false
set_option linter.unusedVariables false
namespace Go.Rk
open Go Go.RowKit
set_option linter.unusedVariables false
theorem block_stmt {t : Nd} (h : blockB t = true) : stmtB t = true := by
 have h1 := Bool.and_eq_true_iff.1 h
 have h2 := of_decide_eq_true h1.1
 unfold stmtB; rw [h2, h1.2]; decide
theorem if_stmt {t : Nd} (h : ifB t = true) : stmtB t = true := by
 have h1 := Bool.and_eq_true_iff.1 h
 have h2 := of_decide_eq_true h1.1
 unfold stmtB; rw [h2, h1.2]; decide
theorem if_kind {t : Nd} (h : ifB t = true) : t.kind = 18 := of_decide_eq_true (Bool.and_eq_true_iff.1 h).1
theorem PBel.t {t : Nd} (ih : PBel t) {i : Nat} (h : i < t.kids.length) (hx : stmtB (kidAt t i) = true) (hk : okNd t) : PrOk Xp stT (kidAt t i) := by
 intro p c D n0 b l k w h1 h2 h3 h4 h5
 have e : pst (kidAt t i) k = stT (kidAt t i) k := by rw [Zma hx]
 have := ih.s h (Zib hx) hk p c D n0 b l k w h1 h2 h3 (by rw [e]; exact h4) h5
 rw [e] at this; exact this
set_option maxHeartbeats 8000000 in
theorem compound_ok {t : Nd} (ih : PBel t) (hx : (t.kind = 23 ∧ caseB t = true) ∨ stmtB t = true) (hok : okNd t) (hkk : t.kind = 18 ∨ t.kind = 19 ∨ t.kind = 10 ∨ t.kind = 22 ∨ t.kind = 23) : PrOk Xqa pst t := by
 intro p c D n0 b l k w hk0 hD hP hlen hc
 have g := PF.refl n0 b w
 have hbn := hP.ge
 have hcn : count t = 1 + (t.kids.map count).sum := Ww t
 have hls := Ui t.kids
 refine Ym (m := 127) Yva rfl rfl [(0, True, _), (1, True, _)] (Za rfl (Za rfl (Zd _))) ?_
 refine Zg fun K1 hK1 => ?_
 refine Zf [1] ?_
 refine Wd rfl (Zb rfl) rfl ?_
 intro b3 w3 N3
 have l3 := newge N3 g.size
 have g := g.trans (PF.of_g (N3.g))
 have hP := hP.grow (N3.g)
 have hk0 := hk0.grow (N3.g)
 try have hkid := hkid.grow (N3.g)
 have B3 := N3.blk
 refine Zj [(0, _, _), (3, _, _)] (Za rfl (Za rfl (Zd _))) ?_
 refine Zh (hK1 _ _ ?_)
 refine Zg fun K2 hK2 => ?_
 refine Zf [3, 0] ?_
 refine Zc rfl (fun _ => Zm Ys (Zb rfl)) ?_
 refine Ya rfl (Zt Yy (Zb rfl) (fun _ => B3.at_ rfl)) ?_
 refine Zj [(0, _, _), (3, _, _), (7, _, _)] (Za rfl (Za rfl (Za rfl (Zd _)))) ?_
 refine Zh (hK2 _ _ ?_)
 refine Yp ?_
 refine Zg fun K3 hK3 => ?_
 refine Zf [3, 3] ?_
 refine Zc rfl (fun _ => Yg (Zb rfl) Zl) ?_
 refine Zc rfl (fun _ => Ze (Zb rfl)) ?_
 refine Zj [(0, _, _), (3, _, _), (7, _, _), (8, _, _)] (Za rfl (Za rfl (Za rfl (Za rfl (Zd _))))) ?_
 refine Zh (hK3 _ _ ?_)
 refine Zz (Zb rfl) (fun h1 => ?_) (fun h1 => ?_)
 ·replace h1 := of_decide_eq_true h1
  replace hx : stmtB t = true := hx.resolve_left fun h => by omega
  rw [Zma hx] at hlen ⊢
  obtain ⟨hl, he0, hb1, hx2⟩ := sh18 (sh18s h1 hx)
  have hE0 := ih.e (by omega) he0 hok
  have hB1 := ih.b (by omega) hb1 hok
  have hc0 := Xf (t := t) (i := 0) (by omega)
  have hc1 := Xf (t := t) (i := 1) (by omega)
  have hc2 := Xf (t := t) (i := 2) (by omega)
  have e := stT_18 h1 hl (hx2.elim (fun h => .inl (Yca h)) fun h => h.elim (fun h => .inr (.inl (if_kind h))) fun h => .inr (.inr (Qn h).1)) k
  rw [e] at hlen
  simp only [Xec, Xfc, Xgc, Xhc, Xic, Xjc, tabsL, Xkc] at hlen
  refine Zg fun K4 hK4 => ?_
  refine Zf [3, 1, 2] ?_
  refine Zc rfl (fun _ => Zi (Zb rfl)) ?_
  refine Zx [_] rfl Yn Xa (Zp Zl (Yc)) rfl rfl ?_
  intro b11 w11 N11
  have x11_3 := N11.ne B3
  have l11 := newge N11 g.size
  have g := g.trans (PF.of_g (N11.g))
  replace B3 := B3.grow (N11.g)
  have hP := hP.grow (N11.g)
  have hk0 := hk0.grow (N11.g)
  try have hkid := hkid.grow (N11.g)
  have B11 := N11.blk
  refine Yd rfl (Zu Zw Yl (Zk (Zb rfl) (Zk (Zb rfl) (Zn))) rfl) (Xd [[105, 102, 32]] hP B11 (by omega) (by first | omega | (simp only [Xec, Xfc, Xgc, Xhc, Xic, Xjc, tabsL, Xkc]; omega) | (simp at hlen ⊢ <;> omega)) (by first | rfl | (simp [ht]; done) | (simpa using ht)) (Nat.le_of_ble_eq_true rfl)) ?_
  rintro v12 w12 ⟨rfl, hP, g12⟩
  refine ⟨fun h => absurd h (by decide), ?_⟩
  have g := g.trans g12
  replace B3 := B3.pf g12 rfl (by omega)
  replace B11 := B11.pf g12 rfl (by omega)
  have hk0 := hk0.pf g12 hD
  try have hkid := hkid.pf g12 hD
  refine Zj [(0, _, _), (3, _, _)] (Za rfl (Za rfl (Zd _))) ?_
  refine Zh (hK4 _ _ ?_)
  refine Zg fun K5 hK5 => ?_
  refine Zf [3, 3, 0, 3, 0, 2] ?_
  refine Zc rfl (fun _ => Zi (Zb rfl)) ?_
  refine Zc rfl (fun _ => Zm Zv (Zb rfl)) ?_
  refine Ya rfl (Zt Zq (Zb rfl) (fun _ => B3.at_ rfl)) ?_
  obtain ⟨hpe, p_16, c_16, hcell, hkid⟩ := Xw hk0 (i := 0) (by omega)
  refine Zc rfl (fun _ => Xc Zo (Zb rfl) Zl (fun _ => by omega) (fun _ => hpe)) ?_
  refine Ya rfl (Yb Zr (Zb rfl) rfl (fun _ => hcell)) ?_
  refine Yd rfl (Zu Xh Yl (Zk (Zb rfl) (Zk (Zb rfl) (Zn))) rfl) (hE0 _ _ D n0 b _ k _ hkid hD hP (by first | omega | (simp only [Xec, Xfc, Xgc, Xhc, Xic, Xjc, tabsL, Xkc]; omega)) (by omega)) ?_
  rintro v18 w18 ⟨rfl, hP, g18⟩
  refine ⟨fun h => absurd h (by decide), ?_⟩
  have g := g.trans g18
  replace B3 := B3.pf g18 rfl (by omega)
  replace B11 := B11.pf g18 rfl (by omega)
  have hk0 := hk0.pf g18 hD
  try have hkid := hkid.pf g18 hD
  refine Zj [(0, _, _), (3, _, _)] (Za rfl (Za rfl (Zd _))) ?_
  refine Zh (hK5 _ _ ?_)
  refine Zg fun K6 hK6 => ?_
  refine Zf [3, 1, 2] ?_
  refine Zc rfl (fun _ => Zi (Zb rfl)) ?_
  refine Zx [_] rfl Yn Xa (Zp Zl (Yc)) rfl rfl ?_
  intro b20 w20 N20
  have x20_3 := N20.ne B3
  have x20_11 := N20.ne B11
  have l20 := newge N20 g.size
  have g := g.trans (PF.of_g (N20.g))
  replace B3 := B3.grow (N20.g)
  replace B11 := B11.grow (N20.g)
  have hP := hP.grow (N20.g)
  have hk0 := hk0.grow (N20.g)
  try have hkid := hkid.grow (N20.g)
  have B20 := N20.blk
  refine Yd rfl (Zu Zw Yl (Zk (Zb rfl) (Zk (Zb rfl) (Zn))) rfl) (Xd [[32]] hP B20 (by omega) (by first | omega | (simp only [Xec, Xfc, Xgc, Xhc, Xic, Xjc, tabsL, Xkc]; omega) | (simp at hlen ⊢ <;> omega)) (by first | rfl | (simp [ht]; done) | (simpa using ht)) (Nat.le_of_ble_eq_true rfl)) ?_
  rintro v21 w21 ⟨rfl, hP, g21⟩
  refine ⟨fun h => absurd h (by decide), ?_⟩
  have g := g.trans g21
  replace B3 := B3.pf g21 rfl (by omega)
  replace B11 := B11.pf g21 rfl (by omega)
  replace B20 := B20.pf g21 rfl (by omega)
  have hk0 := hk0.pf g21 hD
  try have hkid := hkid.pf g21 hD
  refine Zj [(0, _, _), (3, _, _)] (Za rfl (Za rfl (Zd _))) ?_
  refine Zh (hK6 _ _ ?_)
  refine Zg fun K7 hK7 => ?_
  refine Zf [3, 3, 0, 3, 0, 2] ?_
  refine Zc rfl (fun _ => Zi (Zb rfl)) ?_
  refine Zc rfl (fun _ => Zm Zv (Zb rfl)) ?_
  refine Ya rfl (Zt Zq (Zb rfl) (fun _ => B3.at_ rfl)) ?_
  obtain ⟨hpe, p_25, c_25, hcell, hkid⟩ := Xw hk0 (i := 1) (by omega)
  refine Zc rfl (fun _ => Xc Zo (Zb rfl) Zl (fun _ => by omega) (fun _ => hpe)) ?_
  refine Ya rfl (Yb Zr (Zb rfl) rfl (fun _ => hcell)) ?_
  refine Yd rfl (Zu Wk Yl (Zk (Zb rfl) (Zk (Zb rfl) (Zn))) rfl) (hB1 _ _ D n0 b _ k _ hkid hD hP (by first | omega | (simp only [Xec, Xfc, Xgc, Xhc, Xic, Xjc, tabsL, Xkc]; omega)) (by omega)) ?_
  rintro v27 w27 ⟨rfl, hP, g27⟩
  refine ⟨fun h => absurd h (by decide), ?_⟩
  have g := g.trans g27
  replace B3 := B3.pf g27 rfl (by omega)
  replace B11 := B11.pf g27 rfl (by omega)
  replace B20 := B20.pf g27 rfl (by omega)
  have hk0 := hk0.pf g27 hD
  try have hkid := hkid.pf g27 hD
  refine Zj [(0, _, _), (3, _, _)] (Za rfl (Za rfl (Zd _))) ?_
  refine Zh (hK7 _ _ ?_)
  refine Zg fun K8 hK8 => ?_
  refine Zf [3, 0, 3, 3, 0, 3] ?_
  refine Zc rfl (fun _ => Zm Zv (Zb rfl)) ?_
  refine Ya rfl (Zt Zq (Zb rfl) (fun _ => B3.at_ rfl)) ?_
  obtain ⟨hpe, p_30, c_30, hcell, hkid⟩ := Xw hk0 (i := 2) (by omega)
  refine Zc rfl (fun _ => Xc Zo (Zb rfl) Zl (fun _ => by omega) (fun _ => hpe)) ?_
  refine Zc rfl (fun _ => Zm Ys (Zb rfl)) ?_
  refine Ya rfl (Zt Yy (Zb rfl) (fun _ => hcell 0 _ rfl)) ?_
  refine Zc rfl (fun _ => Qi (Zb rfl) Zl) ?_
  refine Zj [(0, _, _), (3, _, _), (33, _, _)] (Za rfl (Za rfl (Za rfl (Zd _)))) ?_
  refine Zh (hK8 _ _ ?_)
  refine Zz (Zb rfl) (fun h2 => ?_) (fun h2 => ?_)
  ·replace h2 : decide ((kidAt t 2).kind = 9) = false := by simpa using h2
   have hS2 := ih.t (i := 2) (by omega) (hx2.elim block_stmt fun h => h.elim if_stmt fun h => absurd (Qn h).1 (of_decide_eq_false h2)) hok
   rw [h2, cond_false] at e hlen
   simp only [Xec, Xfc, Xgc, Xhc, Xic, Xjc, tabsL, Xkc] at hlen
   refine Zg fun K9 hK9 => ?_
   refine Zf [3, 1, 2] ?_
   refine Zc rfl (fun _ => Zi (Zb rfl)) ?_
   refine Zx [_] rfl Yn Xa (Zp Zl (Yc)) rfl rfl ?_
   intro b35 w35 N35
   have x35_3 := N35.ne B3
   have x35_11 := N35.ne B11
   have x35_20 := N35.ne B20
   have l35 := newge N35 g.size
   have g := g.trans (PF.of_g (N35.g))
   replace B3 := B3.grow (N35.g)
   replace B11 := B11.grow (N35.g)
   replace B20 := B20.grow (N35.g)
   have hP := hP.grow (N35.g)
   have hk0 := hk0.grow (N35.g)
   try have hkid := hkid.grow (N35.g)
   have B35 := N35.blk
   refine Yd rfl (Zu Zw Yl (Zk (Zb rfl) (Zk (Zb rfl) (Zn))) rfl) (Xd [[32, 101, 108, 115, 101, 32]] hP B35 (by omega) (by first | omega | (simp only [Xec, Xfc, Xgc, Xhc, Xic, Xjc, tabsL, Xkc]; omega) | (simp at hlen ⊢ <;> omega)) (by first | rfl | (simp [ht]; done) | (simpa using ht)) (Nat.le_of_ble_eq_true rfl)) ?_
   rintro v36 w36 ⟨rfl, hP, g36⟩
   refine ⟨fun h => absurd h (by decide), ?_⟩
   have g := g.trans g36
   replace B3 := B3.pf g36 rfl (by omega)
   replace B11 := B11.pf g36 rfl (by omega)
   replace B20 := B20.pf g36 rfl (by omega)
   replace B35 := B35.pf g36 rfl (by omega)
   have hk0 := hk0.pf g36 hD
   try have hkid := hkid.pf g36 hD
   refine Zj [(0, _, _), (3, _, _)] (Za rfl (Za rfl (Zd _))) ?_
   refine Zh (hK9 _ _ ?_)
   refine Zf [3, 3, 0, 3, 0, 2] ?_
   refine Zc rfl (fun _ => Zi (Zb rfl)) ?_
   refine Zc rfl (fun _ => Zm Zv (Zb rfl)) ?_
   refine Ya rfl (Zt Zq (Zb rfl) (fun _ => B3.at_ rfl)) ?_
   obtain ⟨hpe, p_40, c_40, hcell, hkid⟩ := Xw hk0 (i := 2) (by omega)
   refine Zc rfl (fun _ => Xc Zo (Zb rfl) Zl (fun _ => by omega) (fun _ => hpe)) ?_
   refine Ya rfl (Yb Zr (Zb rfl) rfl (fun _ => hcell)) ?_
   refine Yd rfl (Zu Wp Yl (Zk (Zb rfl) (Zk (Zb rfl) (Zn))) rfl) (hS2 _ _ D n0 b _ k _ hkid hD hP (by first | omega | (simp only [Xec, Xfc, Xgc, Xhc, Xic, Xjc, tabsL, Xkc]; omega)) (by omega)) ?_
   rintro v42 w42 ⟨rfl, hP, g42⟩
   refine ⟨fun h => absurd h (by decide), ?_⟩
   have g := g.trans g42
   replace B3 := B3.pf g42 rfl (by omega)
   replace B11 := B11.pf g42 rfl (by omega)
   replace B20 := B20.pf g42 rfl (by omega)
   replace B35 := B35.pf g42 rfl (by omega)
   have hk0 := hk0.pf g42 hD
   try have hkid := hkid.pf g42 hD
   refine Zj [] (Zd _) ?_
   refine Zh (Xs rfl ?_)
   refine ⟨rfl, ?_, g⟩
   rw [e]; simpa only [List.append_assoc, List.flatten_cons, List.flatten_nil, List.append_nil] using hP
  replace h2 : decide ((kidAt t 2).kind = 9) = true := by simpa using h2
  rw [h2, cond_true] at e
  refine Yq (Xs rfl ?_)
  refine ⟨rfl, ?_, g⟩
  rw [e]; simpa only [List.append_assoc, List.flatten_cons, List.flatten_nil, List.append_nil] using hP
 (try simp only [bsimp] at h1)
 refine Zg fun K10 hK10 => ?_
 refine Zf [3, 3] ?_
 refine Zc rfl (fun _ => Yg (Zb rfl) Zl) ?_
 refine Zc rfl (fun _ => Ze (Zb rfl)) ?_
 refine Zj [(0, _, _), (3, _, _), (7, _, _), (43, _, _)] (Za rfl (Za rfl (Za rfl (Za rfl (Zd _))))) ?_
 refine Zh (hK10 _ _ ?_)
 refine Zz (Zb rfl) (fun h3 => ?_) (fun h3 => ?_)
 ·replace h3 := of_decide_eq_true h3
  replace hx : stmtB t = true := hx.resolve_left fun h => by omega
  rw [Zma hx] at hlen ⊢
  obtain ⟨hl, he0, hb1⟩ := sh19 h3 hx
  have hB1 := ih.b (by omega) hb1 hok
  have hc0 := Xf (t := t) (i := 0) (by omega)
  have hc1 := Xf (t := t) (i := 1) (by omega)
  have e := stT_19 h3 hl k
  have hlr : l.length + 4 < 100000000 := by
   rw [e] at hlen
   cases h : decide ((kidAt t 0).kind = 9) <;> rw [h] at hlen <;> simp only [cond_true, cond_false, Xec, Xfc, Xgc, Xhc, Xic, Xjc, tabsL, Xkc] at hlen <;> omega
  refine Zg fun K11 hK11 => ?_
  refine Zf [3, 1, 2] ?_
  refine Zc rfl (fun _ => Zi (Zb rfl)) ?_
  refine Zx [_] rfl Yn Xa (Zp Zl (Yc)) rfl rfl ?_
  intro b46 w46 N46
  have x46_3 := N46.ne B3
  have l46 := newge N46 g.size
  have g := g.trans (PF.of_g (N46.g))
  replace B3 := B3.grow (N46.g)
  have hP := hP.grow (N46.g)
  have hk0 := hk0.grow (N46.g)
  try have hkid := hkid.grow (N46.g)
  have B46 := N46.blk
  refine Yd rfl (Zu Zw Yl (Zk (Zb rfl) (Zk (Zb rfl) (Zn))) rfl) (Xd [[102, 111, 114, 32]] hP B46 (by omega) (by first | omega | (simp only [Xec, Xfc, Xgc, Xhc, Xic, Xjc, tabsL, Xkc]; omega) | (simp at hlen ⊢ <;> omega)) (by first | rfl | (simp [ht]; done) | (simpa using ht)) (Nat.le_of_ble_eq_true rfl)) ?_
  rintro v47 w47 ⟨rfl, hP, g47⟩
  refine ⟨fun h => absurd h (by decide), ?_⟩
  have g := g.trans g47
  replace B3 := B3.pf g47 rfl (by omega)
  replace B46 := B46.pf g47 rfl (by omega)
  have hk0 := hk0.pf g47 hD
  try have hkid := hkid.pf g47 hD
  refine Zj [(0, _, _), (3, _, _)] (Za rfl (Za rfl (Zd _))) ?_
  refine Zh (hK11 _ _ ?_)
  refine Zg fun K12 hK12 => ?_
  refine Zg fun K13 hK13 => ?_
  refine Zf [3, 0, 3, 3, 0, 3] ?_
  refine Zc rfl (fun _ => Zm Zv (Zb rfl)) ?_
  refine Ya rfl (Zt Zq (Zb rfl) (fun _ => B3.at_ rfl)) ?_
  obtain ⟨hpe, p_50, c_50, hcell, hkid⟩ := Xw hk0 (i := 0) (by omega)
  refine Zc rfl (fun _ => Xc Zo (Zb rfl) Zl (fun _ => by omega) (fun _ => hpe)) ?_
  refine Zc rfl (fun _ => Zm Ys (Zb rfl)) ?_
  refine Ya rfl (Zt Yy (Zb rfl) (fun _ => hcell 0 _ rfl)) ?_
  refine Zc rfl (fun _ => Qi (Zb rfl) Zl) ?_
  refine Zj [(0, _, _), (3, _, _), (53, _, _)] (Za rfl (Za rfl (Za rfl (Zd _)))) ?_
  refine Zh (hK13 _ _ ?_)
  refine Zz (Zb rfl) (fun h4 => ?_) (fun h4 => ?_)
  ·replace h4 : decide ((kidAt t 0).kind = 9) = false := by simpa using h4
   have hE0 := ih.e (i := 0) (by omega) (he0.resolve_left fun h => absurd (Qn h).1 (of_decide_eq_false h4)) hok
   rw [h4, cond_false] at e
   rw [e] at hlen
   simp only [Xec, Xfc, Xgc, Xhc, Xic, Xjc, tabsL, Xkc] at hlen
   refine Zg fun K14 hK14 => ?_
   refine Zf [3, 3, 0, 3, 0, 2] ?_
   refine Zc rfl (fun _ => Zi (Zb rfl)) ?_
   refine Zc rfl (fun _ => Zm Zv (Zb rfl)) ?_
   refine Ya rfl (Zt Zq (Zb rfl) (fun _ => B3.at_ rfl)) ?_
   obtain ⟨hpe, p_57, c_57, hcell, hkid⟩ := Xw hk0 (i := 0) (by omega)
   refine Zc rfl (fun _ => Xc Zo (Zb rfl) Zl (fun _ => by omega) (fun _ => hpe)) ?_
   refine Ya rfl (Yb Zr (Zb rfl) rfl (fun _ => hcell)) ?_
   refine Yd rfl (Zu Xh Yl (Zk (Zb rfl) (Zk (Zb rfl) (Zn))) rfl) (hE0 _ _ D n0 b _ k _ hkid hD hP (by first | omega | (simp only [Xec, Xfc, Xgc, Xhc, Xic, Xjc, tabsL, Xkc]; omega)) (by omega)) ?_
   rintro v59 w59 ⟨rfl, hP, g59⟩
   refine ⟨fun h => absurd h (by decide), ?_⟩
   have g := g.trans g59
   replace B3 := B3.pf g59 rfl (by omega)
   replace B46 := B46.pf g59 rfl (by omega)
   have hk0 := hk0.pf g59 hD
   try have hkid := hkid.pf g59 hD
   refine Zj [(0, _, _), (3, _, _)] (Za rfl (Za rfl (Zd _))) ?_
   refine Zh (hK14 _ _ ?_)
   refine Zf [3, 1, 2] ?_
   refine Zc rfl (fun _ => Zi (Zb rfl)) ?_
   refine Zx [_] rfl Yn Xa (Zp Zl (Yc)) rfl rfl ?_
   intro b61 w61 N61
   have x61_3 := N61.ne B3
   have x61_46 := N61.ne B46
   have l61 := newge N61 g.size
   have g := g.trans (PF.of_g (N61.g))
   replace B3 := B3.grow (N61.g)
   replace B46 := B46.grow (N61.g)
   have hP := hP.grow (N61.g)
   have hk0 := hk0.grow (N61.g)
   try have hkid := hkid.grow (N61.g)
   have B61 := N61.blk
   refine Yd rfl (Zu Zw Yl (Zk (Zb rfl) (Zk (Zb rfl) (Zn))) rfl) (Xd [[32]] hP B61 (by omega) (by first | omega | (simp only [Xec, Xfc, Xgc, Xhc, Xic, Xjc, tabsL, Xkc]; omega) | (simp at hlen ⊢ <;> omega)) (by first | rfl | (simp [ht]; done) | (simpa using ht)) (Nat.le_of_ble_eq_true rfl)) ?_
   rintro v62 w62 ⟨rfl, hP, g62⟩
   refine ⟨fun h => absurd h (by decide), ?_⟩
   have g := g.trans g62
   replace B3 := B3.pf g62 rfl (by omega)
   replace B46 := B46.pf g62 rfl (by omega)
   replace B61 := B61.pf g62 rfl (by omega)
   have hk0 := hk0.pf g62 hD
   try have hkid := hkid.pf g62 hD
   refine Zj [(0, _, _), (3, _, _)] (Za rfl (Za rfl (Zd _))) ?_
   refine Zh (hK12 _ _ ?_)
   refine Zf [3, 3, 0, 3, 0, 2] ?_
   refine Zc rfl (fun _ => Zi (Zb rfl)) ?_
   refine Zc rfl (fun _ => Zm Zv (Zb rfl)) ?_
   refine Ya rfl (Zt Zq (Zb rfl) (fun _ => B3.at_ rfl)) ?_
   obtain ⟨hpe, p_66, c_66, hcell, hkid⟩ := Xw hk0 (i := 1) (by omega)
   refine Zc rfl (fun _ => Xc Zo (Zb rfl) Zl (fun _ => by omega) (fun _ => hpe)) ?_
   refine Ya rfl (Yb Zr (Zb rfl) rfl (fun _ => hcell)) ?_
   refine Yd rfl (Zu Wk Yl (Zk (Zb rfl) (Zk (Zb rfl) (Zn))) rfl) (hB1 _ _ D n0 b _ k _ hkid hD hP (by first | omega | (simp only [Xec, Xfc, Xgc, Xhc, Xic, Xjc, tabsL, Xkc]; omega)) (by omega)) ?_
   rintro v68 w68 ⟨rfl, hP, g68⟩
   refine ⟨fun h => absurd h (by decide), ?_⟩
   have g := g.trans g68
   replace B3 := B3.pf g68 rfl (by omega)
   replace B46 := B46.pf g68 rfl (by omega)
   replace B61 := B61.pf g68 rfl (by omega)
   have hk0 := hk0.pf g68 hD
   try have hkid := hkid.pf g68 hD
   refine Zj [] (Zd _) ?_
   refine Zh (Xs rfl ?_)
   refine ⟨rfl, ?_, g⟩
   rw [e]; simpa only [List.append_assoc, List.flatten_cons, List.flatten_nil, List.append_nil] using hP
  replace h4 : decide ((kidAt t 0).kind = 9) = true := by simpa using h4
  rw [h4, cond_true] at e
  rw [e] at hlen
  simp only [Xec, Xfc, Xgc, Xhc, Xic, Xjc, tabsL, Xkc] at hlen
  refine Yq (hK12 _ _ ?_)
  refine Yi [(0, _, _), (3, _, _)] (Za rfl (Za rfl (Zd _))) ?_
  refine Zf [3, 3, 0, 3, 0, 2] ?_
  refine Zc rfl (fun _ => Zi (Zb rfl)) ?_
  refine Zc rfl (fun _ => Zm Zv (Zb rfl)) ?_
  refine Ya rfl (Zt Zq (Zb rfl) (fun _ => B3.at_ rfl)) ?_
  obtain ⟨hpe, p_66, c_66, hcell, hkid⟩ := Xw hk0 (i := 1) (by omega)
  refine Zc rfl (fun _ => Xc Zo (Zb rfl) Zl (fun _ => by omega) (fun _ => hpe)) ?_
  refine Ya rfl (Yb Zr (Zb rfl) rfl (fun _ => hcell)) ?_
  refine Yd rfl (Zu Wk Yl (Zk (Zb rfl) (Zk (Zb rfl) (Zn))) rfl) (hB1 _ _ D n0 b _ k _ hkid hD hP (by first | omega | (simp only [Xec, Xfc, Xgc, Xhc, Xic, Xjc, tabsL, Xkc]; omega)) (by omega)) ?_
  rintro v68 w68 ⟨rfl, hP, g68⟩
  refine ⟨fun h => absurd h (by decide), ?_⟩
  have g := g.trans g68
  replace B3 := B3.pf g68 rfl (by omega)
  replace B46 := B46.pf g68 rfl (by omega)
  have hk0 := hk0.pf g68 hD
  try have hkid := hkid.pf g68 hD
  refine Zj [] (Zd _) ?_
  refine Zh (Xs rfl ?_)
  refine ⟨rfl, ?_, g⟩
  rw [e]; simpa only [List.append_assoc, List.flatten_cons, List.flatten_nil, List.append_nil] using hP
 (try simp only [bsimp] at h3)
 refine Zg fun K15 hK15 => ?_
 refine Zf [3, 3] ?_
 refine Zc rfl (fun _ => Yg (Zb rfl) Zl) ?_
 refine Zc rfl (fun _ => Ze (Zb rfl)) ?_
 refine Zj [(0, _, _), (3, _, _), (7, _, _), (69, _, _)] (Za rfl (Za rfl (Za rfl (Za rfl (Zd _))))) ?_
 refine Zh (hK15 _ _ ?_)
 refine Zz (Zb rfl) (fun h5 => ?_) (fun h5 => ?_)
 ·replace h5 := of_decide_eq_true h5
  replace hx : stmtB t = true := hx.resolve_left fun h => by omega
  rw [Zma hx] at hlen ⊢
  have hB := ih.b0 (sh10s h5 hx) hok
  have e := stT_10 h5 k
  rw [e] at hlen
  refine Zf [3, 0, 2] ?_
  refine Zc rfl (fun _ => Zi (Zb rfl)) ?_
  refine Ya rfl (Yb Zr (Zb rfl) rfl (fun _ => B3.row)) ?_
  refine Yd rfl (Zu Wk Yl (Zk (Zb rfl) (Zk (Zb rfl) (Zn))) rfl) (hB _ _ D n0 b _ k _ hk0 hD hP (by first | omega | (simp only [Xec, Xfc, Xgc, Xhc, Xic, Xjc, tabsL, Xkc]; omega)) hc) ?_
  rintro v73 w73 ⟨rfl, hP, g73⟩
  refine ⟨fun h => absurd h (by decide), ?_⟩
  have g := g.trans g73
  replace B3 := B3.pf g73 rfl (by omega)
  have hk0 := hk0.pf g73 hD
  try have hkid := hkid.pf g73 hD
  refine Zj [] (Zd _) ?_
  refine Zh (Xs rfl ?_)
  refine ⟨rfl, ?_, g⟩
  rw [e]; simpa only [List.append_assoc, List.flatten_cons, List.flatten_nil, List.append_nil] using hP
 (try simp only [bsimp] at h5)
 refine Zg fun K16 hK16 => ?_
 refine Zf [3, 3] ?_
 refine Zc rfl (fun _ => Yg (Zb rfl) Zl) ?_
 refine Zc rfl (fun _ => Ze (Zb rfl)) ?_
 refine Zj [(0, _, _), (3, _, _), (7, _, _), (74, _, _)] (Za rfl (Za rfl (Za rfl (Za rfl (Zd _))))) ?_
 refine Zh (hK16 _ _ ?_)
 refine Zz (Zb rfl) (fun h6 => ?_) (fun h6 => ?_)
 ·replace h6 := of_decide_eq_true h6
  replace hx : stmtB t = true := hx.resolve_left fun h => by omega
  rw [Zma hx] at hlen ⊢
  have hcs := List.all_eq_true.1 (sh22 h6 hx)
  have e := stT_22 h6 (fun c hm => (sh23 (hcs c hm)).2.1) k
  rw [e] at hlen
  simp only [Xec, Xfc, Xgc, Xhc, Xic, Xjc, tabsL, Xkc] at hlen
  have hst : ∀ x ∈ t.kids, PrOk Xp pst x := fun x hm => (ih x (Xz hm)).st (by unfold pstB; rw [hcs x hm]; simp) (Vc hok hm)
  rw [← Zhb (f := pst) (fun x hm => pst_case (sh23 (hcs x hm)).1)] at hlen e
  refine Zg fun K17 hK17 => ?_
  refine Zf [3, 1, 2] ?_
  refine Zc rfl (fun _ => Zi (Zb rfl)) ?_
  refine Zx [_] rfl Yn Xa (Zp Zl (Yc)) rfl rfl ?_
  intro b77 w77 N77
  have x77_3 := N77.ne B3
  have l77 := newge N77 g.size
  have g := g.trans (PF.of_g (N77.g))
  replace B3 := B3.grow (N77.g)
  have hP := hP.grow (N77.g)
  have hk0 := hk0.grow (N77.g)
  try have hkid := hkid.grow (N77.g)
  have B77 := N77.blk
  refine Yd rfl (Zu Zw Yl (Zk (Zb rfl) (Zk (Zb rfl) (Zn))) rfl) (Xd [[115, 101, 108, 101, 99, 116, 32, 123]] hP B77 (by omega) (by first | omega | (simp only [Xec, Xfc, Xgc, Xhc, Xic, Xjc, tabsL, Xkc]; omega) | (simp at hlen ⊢ <;> omega)) (by first | rfl | (simp [ht]; done) | (simpa using ht)) (Nat.le_of_ble_eq_true rfl)) ?_
  rintro v78 w78 ⟨rfl, hP, g78⟩
  refine ⟨fun h => absurd h (by decide), ?_⟩
  have g := g.trans g78
  replace B3 := B3.pf g78 rfl (by omega)
  replace B77 := B77.pf g78 rfl (by omega)
  have hk0 := hk0.pf g78 hD
  try have hkid := hkid.pf g78 hD
  refine Zj [(0, _, _), (3, _, _)] (Za rfl (Za rfl (Zd _))) ?_
  refine Zh (hK17 _ _ ?_)
  refine Zg fun K18 hK18 => ?_
  refine Zg fun K19 hK19 => ?_
  refine Zf [3, 0, 3, 3] ?_
  refine Zc rfl (fun _ => Zm Zv (Zb rfl)) ?_
  refine Ya rfl (Zt Zq (Zb rfl) (fun _ => B3.at_ rfl)) ?_
  refine Zc rfl (fun _ => Xx Zo (Zb rfl)) ?_
  refine Zc rfl (fun _ => Zi Zl) ?_
  refine Zj [(0, _, _), (80, _, _), (81, _, _), (82, _, _)] (Za rfl (Za rfl (Za rfl (Za rfl (Zd _))))) ?_
  refine Zh (hK19 _ _ ?_)
  refine Yp ?_
  refine Wv (fun (i : Nat) u1 => (i ≤ t.kids.length ∧ Prn n0 b (l ++ [115, 101, 108, 101, 99, 116, 32, 123] ++ plX (t.kids.take i) pst k) k u1 ∧ Kd u1 D t.kids (.slice p t.kids.length c)) ∧ PF n0 b w78 u1) [(0, True, _), (80, True, _), (81, True, _)] (fun (i : Nat) => [(82, True, .int .i64 i)]) (fun (i : Nat) => t.kids.length - i) (0) ⟨⟨Nat.zero_le _, by simpa [plX] using hP, hk0⟩, PF.refl _ _ _⟩ (Za rfl (Za rfl (Za rfl (Za rfl (Zd _))))) ?_
  rintro i u1 ⟨hI1, gl1⟩
  have g := g.trans gl1
  obtain ⟨hi, hP, hk0⟩ := hI1
  refine Zg fun K20 hK20 => ?_
  refine Zf [3] ?_
  refine Zc rfl (fun _ => Vh (Zb rfl) (Zb rfl)) ?_
  refine Zh (hK20 _ _ ?_)
  refine Yi [(0, _, _), (80, _, _), (81, _, _), (82, _, _), (83, _, _)] (Za rfl (Za rfl (Za rfl (Za rfl (Za rfl (Zd _)))))) ?_
  refine Zg fun K21 hK21 => ?_
  refine Zz (Zb rfl) (fun h7 => ?_) (fun h7 => ?_)
  ·replace h7 : i < t.kids.length := by simp only [decide_eq_true_eq] at h7; omega
   obtain ⟨_, _, hpe, _, hks⟩ := id hk0
   obtain ⟨b9, o9, rfl, hD9, xs, hR, hX⟩ := hks (by omega)
   injection hpe with hpe _ hce
   subst hpe hce
   obtain ⟨p9, c9, hcell, hkid⟩ := Yna hR hX h7
   have hjs := plX_snoc t.kids pst k h7
   have hjl := plX_le t.kids pst k (i + 1)
   rw [hjs] at hjl
   have hcs := Vvb t.kids h7
   simp only [Xec, Xfc, Xgc, Xhc, Xic, Xjc, tabsL, Xkc] at hjl
   refine Yq (hK21 _ _ ?_)
   refine Yi [(0, _, _), (80, _, _), (81, _, _), (82, _, _)] (Za rfl (Za rfl (Za rfl (Za rfl (Zd _))))) ?_
   refine Zg fun K22 hK22 => ?_
   refine Yp ?_
   refine Zg fun K23 hK23 => ?_
   refine Zf [3, 0, 1, 2] ?_
   refine Zc rfl (fun _ => Uc Zo (Zb rfl) (Zb rfl) (fun _ => by omega)) ?_
   refine Ya rfl (Yb Zr (Zb rfl) rfl (fun _ => hcell)) ?_
   refine Xr rfl Yo rfl ?_
   intro b5 w5 N5
   have l5 := newge N5 g.size
   try have l5_gl1 := newge N5 gl1.size
   have g := g.trans (PF.of_g (N5.g))
   try have gl1 := gl1.trans (PF.of_g (N5.g))
   have hP := hP.grow (N5.g)
   have hk0 := hk0.grow (N5.g)
   try have hkid := hkid.grow (N5.g)
   have B5 := N5.blk
   refine Yu rfl Xi (Zb rfl) (Zb rfl) rfl rfl B5 rfl rfl ?_
   intro wS1 hgS1 hzS1
   have C5 := B5
   clear B5
   intro B5
   have g := Wta g hgS1 (by omega)
   first | replace gl1 := Wta gl1 hgS1 (by omega) | clear gl1 | skip
   have hP := hP.keep hgS1 C5 rfl (by omega) (by omega)
   have hk0 := hk0.st hgS1 hD (by omega)
   have hkid := hkid.st hgS1 hD (by omega)
   refine Zj [(0, _, _), (5, _, _), (80, _, _), (81, _, _), (82, _, _)] (Za rfl (Za rfl (Za rfl (Za rfl (Za rfl (Zd _)))))) ?_
   refine Zh (hK23 _ _ ?_)
   refine Zg fun K24 hK24 => ?_
   refine Zf [3, 2] ?_
   refine Zc rfl (fun _ => Zi (Zb rfl)) ?_
   refine Yd rfl (Zu Vn Yl (Zk (Zb rfl) (Zn)) rfl) (Wlb hP (by first | omega | (simp only [Xec, Xfc, Xgc, Xhc, Xic, Xjc, tabsL, Xkc]; omega))) ?_
   rintro v87 w87 ⟨rfl, hP, g87⟩
   refine ⟨fun h => absurd h (by decide), ?_⟩
   have g := g.trans g87
   try have gl1 := gl1.trans g87
   replace B5 := B5.pf g87 rfl (by omega)
   have hk0 := hk0.pf g87 hD
   try have hkid := hkid.pf g87 hD
   refine Zj [(0, _, _), (5, _, _), (80, _, _), (81, _, _), (82, _, _)] (Za rfl (Za rfl (Za rfl (Za rfl (Za rfl (Zd _)))))) ?_
   refine Zh (hK24 _ _ ?_)
   refine Zf [3, 0, 2] ?_
   refine Zc rfl (fun _ => Zi (Zb rfl)) ?_
   refine Ya rfl (Yb Zr (Zb rfl) rfl (fun _ => B5.row)) ?_
   refine Yd rfl (Zu Wp Yl (Zk (Zb rfl) (Zk (Zb rfl) (Zn))) rfl) (hst t.kids[i] (List.getElem_mem h7) _ _ D n0 b _ k _ hkid hD hP (by first | omega | (simp only [Xec, Xfc, Xgc, Xhc, Xic, Xjc, tabsL, Xkc]; omega)) (by omega)) ?_
   rintro v90 w90 ⟨rfl, hP, g90⟩
   refine ⟨fun h => absurd h (by decide), ?_⟩
   have g := g.trans g90
   try have gl1 := gl1.trans g90
   replace B5 := B5.pf g90 rfl (by omega)
   have hk0 := hk0.pf g90 hD
   try have hkid := hkid.pf g90 hD
   refine Zj [(0, _, _), (80, _, _), (81, _, _), (82, _, _)] (Za rfl (Za rfl (Za rfl (Za rfl (Zd _))))) ?_
   refine Zh (hK22 _ _ ?_)
   refine Zf [3, 3] ?_
   refine Zc rfl (fun _ => Xq (Zb rfl) Zl (fun _ => by omega)) ?_
   refine Zc rfl (fun _ => Zi (Zb rfl)) ?_
   refine Zj [(82, _, _), (0, _, _), (80, _, _), (81, _, _)] (Za rfl (Za rfl (Za rfl (Za rfl (Zd _))))) ?_
   refine Zh (fun a ha => ?_)
   refine ⟨i + 1, ha, ⟨⟨h7, ?_, hk0⟩, gl1⟩, by omega⟩
   rw [hjs]; simpa only [List.append_assoc] using hP
  replace h7 : i = t.kids.length := by simp only [decide_eq_false_iff_not] at h7; omega
  rw [h7, List.take_length] at hP
  refine Wa rfl (hK18 _ _ ?_)
  refine Yi [(0, _, _)] (Za rfl (Zd _)) ?_
  refine Zg fun K25 hK25 => ?_
  refine Zf [3, 2] ?_
  refine Zc rfl (fun _ => Zi (Zb rfl)) ?_
  refine Yd rfl (Zu Vn Yl (Zk (Zb rfl) (Zn)) rfl) (Wlb hP (by first | omega | (simp only [Xec, Xfc, Xgc, Xhc, Xic, Xjc, tabsL, Xkc]; omega))) ?_
  rintro v93 w93 ⟨rfl, hP, g93⟩
  refine ⟨fun h => absurd h (by decide), ?_⟩
  have g := g.trans g93
  try have gl1 := gl1.trans g93
  have hk0 := hk0.pf g93 hD
  try have hkid := hkid.pf g93 hD
  refine Zj [(0, _, _), (92, _, _)] (Za rfl (Za rfl (Zd _))) ?_
  refine Zh (hK25 _ _ ?_)
  refine Zf [3, 1, 2] ?_
  refine Zc rfl (fun _ => Zi (Zb rfl)) ?_
  refine Zx [_] rfl Yn Xa (Zp Zl (Yc)) rfl rfl ?_
  intro b95 w95 N95
  have l95 := newge N95 g.size
  try have l95_gl1 := newge N95 gl1.size
  have g := g.trans (PF.of_g (N95.g))
  try have gl1 := gl1.trans (PF.of_g (N95.g))
  have hP := hP.grow (N95.g)
  have hk0 := hk0.grow (N95.g)
  try have hkid := hkid.grow (N95.g)
  have B95 := N95.blk
  refine Yd rfl (Zu Zw Yl (Zk (Zb rfl) (Zk (Zb rfl) (Zn))) rfl) (Xd [[125]] hP B95 (by omega) (by first | omega | (simp only [Xec, Xfc, Xgc, Xhc, Xic, Xjc, tabsL, Xkc]; omega) | (simp at hlen ⊢ <;> omega)) (by first | rfl | (simp [ht]; done) | (simpa using ht)) (Nat.le_of_ble_eq_true rfl)) ?_
  rintro v96 w96 ⟨rfl, hP, g96⟩
  refine ⟨fun h => absurd h (by decide), ?_⟩
  have g := g.trans g96
  try have gl1 := gl1.trans g96
  replace B95 := B95.pf g96 rfl (by omega)
  have hk0 := hk0.pf g96 hD
  try have hkid := hkid.pf g96 hD
  refine Zj [(0, _, _), (92, _, _), (94, _, _), (95, _, _)] (Za rfl (Za rfl (Za rfl (Za rfl (Zd _))))) ?_
  refine Zh (Xs rfl ?_)
  refine ⟨rfl, ?_, g⟩
  rw [e]; simpa only [List.append_assoc, List.flatten_cons, List.flatten_nil, List.append_nil] using hP
 (try simp only [bsimp] at h6)
 refine Zg fun K26 hK26 => ?_
 refine Zf [3, 3] ?_
 refine Zc rfl (fun _ => Yg (Zb rfl) Zl) ?_
 refine Zc rfl (fun _ => Ze (Zb rfl)) ?_
 refine Zj [(0, _, _), (3, _, _), (97, _, _)] (Za rfl (Za rfl (Za rfl (Zd _)))) ?_
 refine Zh (hK26 _ _ ?_)
 refine Zz (Zb rfl) (fun h8 => ?_) (fun h8 => ?_)
 ·replace h8 := of_decide_eq_true h8
  replace hx : caseB t = true := hx.elim (fun h => h.2) fun h => by unfold stmtB at h; rw [h8] at h; revert h; rw [show stK 23 = false by decide]; simp
  obtain ⟨_, hl, hcm, hb1⟩ := sh23 hx
  have e : pst t k = pcsX t k := by rw [pst_case h8]
  rw [e, pcsX] at hlen
  rw [pcsX] at e
  have hc0 := Xf (t := t) (i := 0) (by omega)
  have hc1 := Xf (t := t) (i := 1) (by omega)
  have hcn1 : count (kidAt t 1) = 1 + ((kidAt t 1).kids.map count).sum := Ww _
  have hss := List.all_eq_true.1 (sh10 hb1)
  have hst : ∀ x ∈ (kidAt t 1).kids, PrOk Xp pst x := fun x hm => (ih x (Nat.lt_trans (Xz hm) hc1)).st (Zib (hss x hm)) (Vc (okNd_kidAt' hok (by omega)) hm)
  rw [← Zhb (f := pst) (g := stT) (fun x hm => Zma (hss x hm))] at hlen e
  refine Zg fun K27 hK27 => ?_
  refine Zg fun K28 hK28 => ?_
  refine Zf [3, 0, 3, 3, 0, 3] ?_
  refine Zc rfl (fun _ => Zm Zv (Zb rfl)) ?_
  refine Ya rfl (Zt Zq (Zb rfl) (fun _ => B3.at_ rfl)) ?_
  obtain ⟨hpe, p_101, c_101, hcell, hkid⟩ := Xw hk0 (i := 0) (by omega)
  refine Zc rfl (fun _ => Xc Zo (Zb rfl) Zl (fun _ => by omega) (fun _ => hpe)) ?_
  refine Zc rfl (fun _ => Zm Ys (Zb rfl)) ?_
  refine Ya rfl (Zt Yy (Zb rfl) (fun _ => hcell 0 _ rfl)) ?_
  refine Zc rfl (fun _ => Yg (Zb rfl) Zl) ?_
  refine Zj [(0, _, _), (3, _, _), (104, _, _)] (Za rfl (Za rfl (Za rfl (Zd _)))) ?_
  refine Zh (hK28 _ _ ?_)
  refine Zz (Zb rfl) (fun h9 => ?_) (fun h9 => ?_)
  ·replace h9 : decide ((kidAt t 0).kind = 9) = true := by simpa using h9
   rw [h9, cond_true] at hlen e
   simp only [Xec, Xfc, Xgc, Xhc, Xic, Xjc, tabsL, Xkc] at hlen
   refine Zf [3, 1, 2] ?_
   refine Zc rfl (fun _ => Zi (Zb rfl)) ?_
   refine Zx [_] rfl Yn Xa (Zp Zl (Yc)) rfl rfl ?_
   intro b106 w106 N106
   have x106_3 := N106.ne B3
   have l106 := newge N106 g.size
   have g := g.trans (PF.of_g (N106.g))
   replace B3 := B3.grow (N106.g)
   have hP := hP.grow (N106.g)
   have hk0 := hk0.grow (N106.g)
   try have hkid := hkid.grow (N106.g)
   have B106 := N106.blk
   refine Yd rfl (Zu Zw Yl (Zk (Zb rfl) (Zk (Zb rfl) (Zn))) rfl) (Xd [[100, 101, 102, 97, 117, 108, 116, 58]] hP B106 (by omega) (by first | omega | (simp only [Xec, Xfc, Xgc, Xhc, Xic, Xjc, tabsL, Xkc]; omega) | (simp at hlen ⊢ <;> omega)) (by first | rfl | (simp [ht]; done) | (simpa using ht)) (Nat.le_of_ble_eq_true rfl)) ?_
   rintro v107 w107 ⟨rfl, hP, g107⟩
   refine ⟨fun h => absurd h (by decide), ?_⟩
   have g := g.trans g107
   replace B3 := B3.pf g107 rfl (by omega)
   replace B106 := B106.pf g107 rfl (by omega)
   have hk0 := hk0.pf g107 hD
   try have hkid := hkid.pf g107 hD
   refine Zj [(0, _, _), (3, _, _)] (Za rfl (Za rfl (Zd _))) ?_
   refine Zh (hK27 _ _ ?_)
   refine Zf [3, 3, 0, 3, 3, 0, 2] ?_
   refine Zc rfl (fun _ => Zi (Zb rfl)) ?_
   refine Zc rfl (fun _ => Zm Zv (Zb rfl)) ?_
   refine Ya rfl (Zt Zq (Zb rfl) (fun _ => B3.at_ rfl)) ?_
   obtain ⟨hpe, p_123, c_123, hcell, hkid⟩ := Xw hk0 (i := 1) (by omega)
   refine Zc rfl (fun _ => Xc Zo (Zb rfl) Zl (fun _ => by omega) (fun _ => hpe)) ?_
   refine Zc rfl (fun _ => Zm Zv (Zb rfl)) ?_
   refine Ya rfl (Zt Zq (Zb rfl) (fun _ => hcell 4 _ rfl)) ?_
   refine Yd rfl (Zu Ua Yl (Zk (Zb rfl) (Zk (Zb rfl) (Zn))) rfl) (Wmb hst hkid hD hP (by first | omega | (simp only [Xec, Xfc, Xgc, Xhc, Xic, Xjc, tabsL, Xkc]; omega)) (by omega)) ?_
   rintro v126 w126 ⟨rfl, hP, g126⟩
   refine ⟨fun h => absurd h (by decide), ?_⟩
   have g := g.trans g126
   replace B3 := B3.pf g126 rfl (by omega)
   replace B106 := B106.pf g126 rfl (by omega)
   have hk0 := hk0.pf g126 hD
   try have hkid := hkid.pf g126 hD
   refine Zj [] (Zd _) ?_
   refine Zh (Xs rfl ?_)
   refine ⟨rfl, ?_, g⟩
   rw [e]; simpa only [List.append_assoc, List.flatten_cons, List.flatten_nil, List.append_nil] using hP
  replace h9 : decide ((kidAt t 0).kind = 9) = false := by simpa using h9
  rw [h9, cond_false] at hlen e
  simp only [Xec, Xfc, Xgc, Xhc, Xic, Xjc, tabsL, Xkc] at hlen
  have hS0 := ih.t (i := 0) (by omega) ((Vtb hcm).resolve_left (of_decide_eq_false h9)) hok
  refine Zg fun K29 hK29 => ?_
  refine Zf [3, 1, 2] ?_
  refine Zc rfl (fun _ => Zi (Zb rfl)) ?_
  refine Zx [_] rfl Yn Xa (Zp Zl (Yc)) rfl rfl ?_
  intro b109 w109 N109
  have x109_3 := N109.ne B3
  have l109 := newge N109 g.size
  have g := g.trans (PF.of_g (N109.g))
  replace B3 := B3.grow (N109.g)
  have hP := hP.grow (N109.g)
  have hk0 := hk0.grow (N109.g)
  try have hkid := hkid.grow (N109.g)
  have B109 := N109.blk
  refine Yd rfl (Zu Zw Yl (Zk (Zb rfl) (Zk (Zb rfl) (Zn))) rfl) (Xd [[99, 97, 115, 101, 32]] hP B109 (by omega) (by first | omega | (simp only [Xec, Xfc, Xgc, Xhc, Xic, Xjc, tabsL, Xkc]; omega) | (simp at hlen ⊢ <;> omega)) (by first | rfl | (simp [ht]; done) | (simpa using ht)) (Nat.le_of_ble_eq_true rfl)) ?_
  rintro v110 w110 ⟨rfl, hP, g110⟩
  refine ⟨fun h => absurd h (by decide), ?_⟩
  have g := g.trans g110
  replace B3 := B3.pf g110 rfl (by omega)
  replace B109 := B109.pf g110 rfl (by omega)
  have hk0 := hk0.pf g110 hD
  try have hkid := hkid.pf g110 hD
  refine Zj [(0, _, _), (3, _, _)] (Za rfl (Za rfl (Zd _))) ?_
  refine Zh (hK29 _ _ ?_)
  refine Zg fun K30 hK30 => ?_
  refine Zf [3, 3, 0, 3, 0, 2] ?_
  refine Zc rfl (fun _ => Zi (Zb rfl)) ?_
  refine Zc rfl (fun _ => Zm Zv (Zb rfl)) ?_
  refine Ya rfl (Zt Zq (Zb rfl) (fun _ => B3.at_ rfl)) ?_
  obtain ⟨hpe, p_114, c_114, hcell, hkid⟩ := Xw hk0 (i := 0) (by omega)
  refine Zc rfl (fun _ => Xc Zo (Zb rfl) Zl (fun _ => by omega) (fun _ => hpe)) ?_
  refine Ya rfl (Yb Zr (Zb rfl) rfl (fun _ => hcell)) ?_
  refine Yd rfl (Zu Wp Yl (Zk (Zb rfl) (Zk (Zb rfl) (Zn))) rfl) (hS0 _ _ D n0 b _ k _ hkid hD hP (by first | omega | (simp only [Xec, Xfc, Xgc, Xhc, Xic, Xjc, tabsL, Xkc]; omega)) (by omega)) ?_
  rintro v116 w116 ⟨rfl, hP, g116⟩
  refine ⟨fun h => absurd h (by decide), ?_⟩
  have g := g.trans g116
  replace B3 := B3.pf g116 rfl (by omega)
  replace B109 := B109.pf g116 rfl (by omega)
  have hk0 := hk0.pf g116 hD
  try have hkid := hkid.pf g116 hD
  refine Zj [(0, _, _), (3, _, _)] (Za rfl (Za rfl (Zd _))) ?_
  refine Zh (hK30 _ _ ?_)
  refine Zf [3, 1, 2] ?_
  refine Zc rfl (fun _ => Zi (Zb rfl)) ?_
  refine Zx [_] rfl Yn Xa (Zp Zl (Yc)) rfl rfl ?_
  intro b118 w118 N118
  have x118_3 := N118.ne B3
  have x118_109 := N118.ne B109
  have l118 := newge N118 g.size
  have g := g.trans (PF.of_g (N118.g))
  replace B3 := B3.grow (N118.g)
  replace B109 := B109.grow (N118.g)
  have hP := hP.grow (N118.g)
  have hk0 := hk0.grow (N118.g)
  try have hkid := hkid.grow (N118.g)
  have B118 := N118.blk
  refine Yd rfl (Zu Zw Yl (Zk (Zb rfl) (Zk (Zb rfl) (Zn))) rfl) (Xd [[58]] hP B118 (by omega) (by first | omega | (simp only [Xec, Xfc, Xgc, Xhc, Xic, Xjc, tabsL, Xkc]; omega) | (simp at hlen ⊢ <;> omega)) (by first | rfl | (simp [ht]; done) | (simpa using ht)) (Nat.le_of_ble_eq_true rfl)) ?_
  rintro v119 w119 ⟨rfl, hP, g119⟩
  refine ⟨fun h => absurd h (by decide), ?_⟩
  have g := g.trans g119
  replace B3 := B3.pf g119 rfl (by omega)
  replace B109 := B109.pf g119 rfl (by omega)
  replace B118 := B118.pf g119 rfl (by omega)
  have hk0 := hk0.pf g119 hD
  try have hkid := hkid.pf g119 hD
  refine Zj [(0, _, _), (3, _, _)] (Za rfl (Za rfl (Zd _))) ?_
  refine Zh (hK27 _ _ ?_)
  refine Zf [3, 3, 0, 3, 3, 0, 2] ?_
  refine Zc rfl (fun _ => Zi (Zb rfl)) ?_
  refine Zc rfl (fun _ => Zm Zv (Zb rfl)) ?_
  refine Ya rfl (Zt Zq (Zb rfl) (fun _ => B3.at_ rfl)) ?_
  obtain ⟨hpe, p_123, c_123, hcell, hkid⟩ := Xw hk0 (i := 1) (by omega)
  refine Zc rfl (fun _ => Xc Zo (Zb rfl) Zl (fun _ => by omega) (fun _ => hpe)) ?_
  refine Zc rfl (fun _ => Zm Zv (Zb rfl)) ?_
  refine Ya rfl (Zt Zq (Zb rfl) (fun _ => hcell 4 _ rfl)) ?_
  refine Yd rfl (Zu Ua Yl (Zk (Zb rfl) (Zk (Zb rfl) (Zn))) rfl) (Wmb hst hkid hD hP (by first | omega | (simp only [Xec, Xfc, Xgc, Xhc, Xic, Xjc, tabsL, Xkc]; omega)) (by omega)) ?_
  rintro v126 w126 ⟨rfl, hP, g126⟩
  refine ⟨fun h => absurd h (by decide), ?_⟩
  have g := g.trans g126
  replace B3 := B3.pf g126 rfl (by omega)
  replace B109 := B109.pf g126 rfl (by omega)
  replace B118 := B118.pf g126 rfl (by omega)
  have hk0 := hk0.pf g126 hD
  try have hkid := hkid.pf g126 hD
  refine Zj [] (Zd _) ?_
  refine Zh (Xs rfl ?_)
  refine ⟨rfl, ?_, g⟩
  rw [e]; simpa only [List.append_assoc, List.flatten_cons, List.flatten_nil, List.append_nil] using hP
 (try simp only [bsimp] at h8)
 exfalso; simp only [bsimp, decide_eq_false_iff_not] at h1 h3 h5 h6 h8; omega
end Go.Rk
namespace Go.Rk
open Go Go.RowKit
set_option linter.unusedVariables false
theorem decX_2 {t : Nd} (h : t.kind = 2) (hf : ∀ x ∈ t.kids, fieldB x = true) (k : Nat) : pst t k = ((([116, 121, 112, 101, 32] ++ t.text ++ [32, 115, 116, 114, 117, 99, 116, 32, 123]) ++ plX t.kids pst (k + 1)) ++ ([10] ++ tabsL k)) ++ [125] := by
  rw [pst, h]; show decX t k = _
  rw [decX, h, Zhb (f := pst) (g := fun c _ => fieldX c) (fun x hm => Vub (sh3 (hf x hm)).1)]; rfl
theorem decX_4 {t : Nd} (h : t.kind = 4) (k : Nat) : pst t k = ((((([102, 117, 110, 99, 32] ++ t.text) ++ [40]) ++ joinX ((kidAt t 0).kids.map fieldX)) ++ [41, 32]) ++ (bif decide ((kidAt t 1).kind = 9) then [] else typeX (kidAt t 1) ++ [32])) ++ blkT (kidAt t 2) k := by
  rw [pst, h]; show decX t k = _
  rw [decX, h]; rfl
theorem decX_6 {t : Nd} (h : t.kind = 6) (hl : t.kids.length = 2) (k : Nat) : pst t k = ((([118, 97, 114, 32] ++ t.text) ++ [32]) ++ typeX (kidAt t 0)) ++ (bif decide ((kidAt t 1).kind = 9) then [] else [32, 61, 32] ++ exT (kidAt t 1) k) := by
  rw [pst, h]; show stT t k = _
  exact stT_6 h hl k
set_option maxHeartbeats 8000000 in
theorem Ypc {t : Nd} (ih : PBel t) (hx : (t.kind = 2 ∧ declB t = true) ∨ (t.kind = 3 ∧ fieldB t = true) ∨ (t.kind = 4 ∧ declB t = true) ∨ (t.kind = 6 ∧ varB t = true)) (hok : okNd t) : PrOk Yia pst t := by
  intro p c D n0 b l k w hk0 hD hP hlen hc
  have g := PF.refl n0 b w
  have hbn := hP.ge
  have hcn : count t = 1 + (t.kids.map count).sum := Ww t
  refine Ym (m := 116) Zoa rfl rfl [(0, True, _), (1, True, _)] (Za rfl (Za rfl (Zd _))) ?_
  refine Zg fun K1 hK1 => ?_
  refine Zf [1] ?_
  refine Wd rfl (Zb rfl) rfl ?_
  intro b3 w3 N3
  have l3 := newge N3 g.size
  have g := g.trans (PF.of_g (N3.g))
  have hP := hP.grow (N3.g)
  have hk0 := hk0.grow (N3.g)
  try have hkid := hkid.grow (N3.g)
  try have hkf := hkf.grow (N3.g)
  have B3 := N3.blk
  refine Zj [(0, _, _), (3, _, _)] (Za rfl (Za rfl (Zd _))) ?_
  refine Zh (hK1 _ _ ?_)
  refine Zg fun K2 hK2 => ?_
  refine Zf [3, 0] ?_
  refine Zc rfl (fun _ => Zm Ys (Zb rfl)) ?_
  refine Ya rfl (Zt Yy (Zb rfl) (fun _ => B3.at_ rfl)) ?_
  refine Zj [(0, _, _), (3, _, _), (7, _, _)] (Za rfl (Za rfl (Za rfl (Zd _)))) ?_
  refine Zh (hK2 _ _ ?_)
  refine Yp ?_
  refine Zg fun K3 hK3 => ?_
  refine Zf [3, 3] ?_
  refine Zc rfl (fun _ => Yg (Zb rfl) Zl) ?_
  refine Zc rfl (fun _ => Ze (Zb rfl)) ?_
  refine Zj [(0, _, _), (3, _, _), (7, _, _), (8, _, _)] (Za rfl (Za rfl (Za rfl (Za rfl (Zd _))))) ?_
  refine Zh (hK3 _ _ ?_)
  refine Zz (Zb rfl) (fun h1 => ?_) (fun h1 => ?_)
  · replace h1 := of_decide_eq_true h1
    obtain ⟨ht, hf⟩ := dec2 h1 (hx.elim (fun h => h.2) fun h => absurd h (by omega))
    have hff := List.all_eq_true.1 hf
    have e := decX_2 h1 hff k
    rw [e] at hlen
    simp only [Xec, Xfc, Xgc, Xhc, Xic, Xjc, tabsL, Xkc] at hlen
    have hst : ∀ x ∈ t.kids, PrOk Xp pst x := fun x hm => (ih x (Xz hm)).st (by unfold pstB; rw [hff x hm]; simp) (Vc hok hm)
    refine Zg fun K4 hK4 => ?_
    refine Zf [3, 3, 0, 1, 2] ?_
    refine Zc rfl (fun _ => Zi (Zb rfl)) ?_
    refine Zc rfl (fun _ => Zm Yw (Zb rfl)) ?_
    refine Ya rfl (Zt Yt (Zb rfl) (fun _ => B3.at_ rfl)) ?_
    refine Zx [_, _, _] rfl Yn Xa (Zp Zl (Zp (Zb rfl) (Zp Zl (Yc)))) rfl rfl ?_
    intro b13 w13 N13
    have x13_3 := N13.ne B3
    have l13 := newge N13 g.size
    have g := g.trans (PF.of_g (N13.g))
    replace B3 := B3.grow (N13.g)
    have hP := hP.grow (N13.g)
    have hk0 := hk0.grow (N13.g)
    try have hkid := hkid.grow (N13.g)
    try have hkf := hkf.grow (N13.g)
    have B13 := N13.blk
    refine Yd rfl (Zu Zw Yl (Zk (Zb rfl) (Zk (Zb rfl) (Zn))) rfl) (Xd [[116, 121, 112, 101, 32], t.text, [32, 115, 116, 114, 117, 99, 116, 32, 123]] hP B13 (by omega) (by first | omega | (simp only [Xec, Xfc, Xgc, Xhc, Xic, Xjc, tabsL, Xkc]; omega) | (simp at hlen ⊢ <;> omega)) (by first | rfl | (simp [ht]; done) | (simpa using ht)) (Nat.le_of_ble_eq_true rfl)) ?_
    rintro v14 w14 ⟨rfl, hP, g14⟩
    refine ⟨fun h => absurd h (by decide), ?_⟩
    have g := g.trans g14
    replace B3 := B3.pf g14 rfl (by omega)
    replace B13 := B13.pf g14 rfl (by omega)
    have hk0 := hk0.pf g14 hD
    try have hkid := hkid.pf g14 hD
    try have hkf := hkf.pf g14 hD
    refine Zj [(0, _, _), (3, _, _)] (Za rfl (Za rfl (Zd _))) ?_
    refine Zh (hK4 _ _ ?_)
    refine Zg fun K5 hK5 => ?_
    refine Zf [3, 3, 0, 2] ?_
    refine Zc rfl (fun _ => Zi (Zb rfl)) ?_
    refine Zc rfl (fun _ => Zm Zv (Zb rfl)) ?_
    refine Ya rfl (Zt Zq (Zb rfl) (fun _ => B3.at_ rfl)) ?_
    refine Yd rfl (Zu Ua Yl (Zk (Zb rfl) (Zk (Zb rfl) (Zn))) rfl) (Wmb hst hk0 hD hP (by first | omega | (simp only [Xec, Xfc, Xgc, Xhc, Xic, Xjc, tabsL, Xkc]; omega)) (by omega)) ?_
    rintro v18 w18 ⟨rfl, hP, g18⟩
    refine ⟨fun h => absurd h (by decide), ?_⟩
    have g := g.trans g18
    replace B3 := B3.pf g18 rfl (by omega)
    replace B13 := B13.pf g18 rfl (by omega)
    have hk0 := hk0.pf g18 hD
    try have hkid := hkid.pf g18 hD
    try have hkf := hkf.pf g18 hD
    refine Zj [(0, _, _)] (Za rfl (Zd _)) ?_
    refine Zh (hK5 _ _ ?_)
    refine Zg fun K6 hK6 => ?_
    refine Zf [3, 2] ?_
    refine Zc rfl (fun _ => Zi (Zb rfl)) ?_
    refine Yd rfl (Zu Vn Yl (Zk (Zb rfl) (Zn)) rfl) (Wlb hP (by first | omega | (simp only [Xec, Xfc, Xgc, Xhc, Xic, Xjc, tabsL, Xkc]; omega))) ?_
    rintro v20 w20 ⟨rfl, hP, g20⟩
    refine ⟨fun h => absurd h (by decide), ?_⟩
    have g := g.trans g20
    replace B3 := B3.pf g20 rfl (by omega)
    replace B13 := B13.pf g20 rfl (by omega)
    have hk0 := hk0.pf g20 hD
    try have hkid := hkid.pf g20 hD
    try have hkf := hkf.pf g20 hD
    refine Zj [(0, _, _)] (Za rfl (Zd _)) ?_
    refine Zh (hK6 _ _ ?_)
    refine Zf [3, 1, 2] ?_
    refine Zc rfl (fun _ => Zi (Zb rfl)) ?_
    refine Zx [_] rfl Yn Xa (Zp Zl (Yc)) rfl rfl ?_
    intro b22 w22 N22
    have x22_3 := N22.ne B3
    have x22_13 := N22.ne B13
    have l22 := newge N22 g.size
    have g := g.trans (PF.of_g (N22.g))
    replace B3 := B3.grow (N22.g)
    replace B13 := B13.grow (N22.g)
    have hP := hP.grow (N22.g)
    have hk0 := hk0.grow (N22.g)
    try have hkid := hkid.grow (N22.g)
    try have hkf := hkf.grow (N22.g)
    have B22 := N22.blk
    refine Yd rfl (Zu Zw Yl (Zk (Zb rfl) (Zk (Zb rfl) (Zn))) rfl) (Xd [[125]] hP B22 (by omega) (by first | omega | (simp only [Xec, Xfc, Xgc, Xhc, Xic, Xjc, tabsL, Xkc]; omega) | (simp at hlen ⊢ <;> omega)) (by first | rfl | (simp [ht]; done) | (simpa using ht)) (Nat.le_of_ble_eq_true rfl)) ?_
    rintro v23 w23 ⟨rfl, hP, g23⟩
    refine ⟨fun h => absurd h (by decide), ?_⟩
    have g := g.trans g23
    replace B3 := B3.pf g23 rfl (by omega)
    replace B13 := B13.pf g23 rfl (by omega)
    replace B22 := B22.pf g23 rfl (by omega)
    have hk0 := hk0.pf g23 hD
    try have hkid := hkid.pf g23 hD
    try have hkf := hkf.pf g23 hD
    refine Zj [] (Zd _) ?_
    refine Zh (Xs rfl ?_)
    refine ⟨rfl, ?_, g⟩
    rw [e]; simpa only [List.append_assoc, List.flatten_cons, List.flatten_nil, List.append_nil] using hP
  (try simp only [bsimp] at h1)
  refine Zg fun K7 hK7 => ?_
  refine Zf [3, 3] ?_
  refine Zc rfl (fun _ => Yg (Zb rfl) Zl) ?_
  refine Zc rfl (fun _ => Ze (Zb rfl)) ?_
  refine Zj [(0, _, _), (3, _, _), (7, _, _), (24, _, _)] (Za rfl (Za rfl (Za rfl (Za rfl (Zd _))))) ?_
  refine Zh (hK7 _ _ ?_)
  refine Zz (Zb rfl) (fun h2 => ?_) (fun h2 => ?_)
  · replace h2 := of_decide_eq_true h2
    obtain ⟨_, ht, hl, hty⟩ := sh3 (hx.elim (fun h => absurd h.1 (by omega)) fun h => h.elim (fun h => h.2) fun h => absurd h (by omega))
    have e : pst t k = (t.text ++ [32]) ++ typeX (kidAt t 0) := by rw [Vub h2]; rfl
    rw [e] at hlen
    simp only [Xec, Xfc, Xgc, Xhc, Xic, Xjc, tabsL, Xkc] at hlen
    refine Zg fun K8 hK8 => ?_
    refine Zf [3, 3, 0, 1, 2] ?_
    refine Zc rfl (fun _ => Zi (Zb rfl)) ?_
    refine Zc rfl (fun _ => Zm Yw (Zb rfl)) ?_
    refine Ya rfl (Zt Yt (Zb rfl) (fun _ => B3.at_ rfl)) ?_
    refine Zx [_, _] rfl Yn Xa (Zp (Zb rfl) (Zp Zl (Yc))) rfl rfl ?_
    intro b29 w29 N29
    have x29_3 := N29.ne B3
    have l29 := newge N29 g.size
    have g := g.trans (PF.of_g (N29.g))
    replace B3 := B3.grow (N29.g)
    have hP := hP.grow (N29.g)
    have hk0 := hk0.grow (N29.g)
    try have hkid := hkid.grow (N29.g)
    try have hkf := hkf.grow (N29.g)
    have B29 := N29.blk
    refine Yd rfl (Zu Zw Yl (Zk (Zb rfl) (Zk (Zb rfl) (Zn))) rfl) (Xd [t.text, [32]] hP B29 (by omega) (by first | omega | (simp only [Xec, Xfc, Xgc, Xhc, Xic, Xjc, tabsL, Xkc]; omega) | (simp at hlen ⊢ <;> omega)) (by first | rfl | (simp [ht]; done) | (simpa using ht)) (Nat.le_of_ble_eq_true rfl)) ?_
    rintro v30 w30 ⟨rfl, hP, g30⟩
    refine ⟨fun h => absurd h (by decide), ?_⟩
    have g := g.trans g30
    replace B3 := B3.pf g30 rfl (by omega)
    replace B29 := B29.pf g30 rfl (by omega)
    have hk0 := hk0.pf g30 hD
    try have hkid := hkid.pf g30 hD
    try have hkf := hkf.pf g30 hD
    refine Zj [(0, _, _), (3, _, _)] (Za rfl (Za rfl (Zd _))) ?_
    refine Zh (hK8 _ _ ?_)
    refine Zf [3, 3, 0, 3, 0, 2] ?_
    refine Zc rfl (fun _ => Zi (Zb rfl)) ?_
    refine Zc rfl (fun _ => Zm Zv (Zb rfl)) ?_
    refine Ya rfl (Zt Zq (Zb rfl) (fun _ => B3.at_ rfl)) ?_
    obtain ⟨hpe, p_34, c_34, hcell, hkid⟩ := Xw hk0 (i := 0) (by omega)
    refine Zc rfl (fun _ => Xc Zo (Zb rfl) Zl (fun _ => by omega) (fun _ => hpe)) ?_
    refine Ya rfl (Yb Zr (Zb rfl) rfl (fun _ => hcell)) ?_
    refine Yd rfl (Zu Ja Yl (Zk (Zb rfl) (Zk (Zb rfl) (Zn))) rfl) (typ_ok _ _ hP (typ_ne hty) (by first | omega | (simp only [Xec, Xfc, Xgc, Xhc, Xic, Xjc, tabsL, Xkc]; omega)) ⟨_, _, rfl⟩) ?_
    rintro v36 w36 ⟨rfl, hP, g36⟩
    refine ⟨fun h => absurd h (by decide), ?_⟩
    have g := g.trans g36
    replace B3 := B3.pf g36 rfl (by omega)
    replace B29 := B29.pf g36 rfl (by omega)
    have hk0 := hk0.pf g36 hD
    try have hkid := hkid.pf g36 hD
    try have hkf := hkf.pf g36 hD
    refine Zj [] (Zd _) ?_
    refine Zh (Xs rfl ?_)
    refine ⟨rfl, ?_, g⟩
    rw [e]; simpa only [List.append_assoc, List.flatten_cons, List.flatten_nil, List.append_nil] using hP
  (try simp only [bsimp] at h2)
  refine Zg fun K9 hK9 => ?_
  refine Zf [3, 3] ?_
  refine Zc rfl (fun _ => Yg (Zb rfl) Zl) ?_
  refine Zc rfl (fun _ => Ze (Zb rfl)) ?_
  refine Zj [(0, _, _), (3, _, _), (7, _, _), (37, _, _)] (Za rfl (Za rfl (Za rfl (Za rfl (Zd _))))) ?_
  refine Zh (hK9 _ _ ?_)
  refine Zz (Zb rfl) (fun h3 => ?_) (fun h3 => ?_)
  · replace h3 := of_decide_eq_true h3
    obtain ⟨ht, hl, hf, htn, hb2⟩ := dec4 h3 (hx.elim (fun h => absurd h.1 (by omega)) fun h => h.elim (fun h => absurd h.1 (by omega)) fun h => h.elim (fun h => h.2) fun h => absurd h (by omega))
    have hff := List.all_eq_true.1 hf
    have hc0 := Xf (t := t) (i := 0) (by omega)
    have hc2 := Xf (t := t) (i := 2) (by omega)
    have hcn0 : count (kidAt t 0) = 1 + ((kidAt t 0).kids.map count).sum := Ww _
    have hls := Ui (kidAt t 0).kids
    have hB2 := ih.b (by omega) hb2 hok
    have e := decX_4 h3 k
    rw [e] at hlen
    simp only [Xec, Xfc, Xgc, Xhc, Xic, Xjc, tabsL, Xkc] at hlen
    have hst : ∀ x ∈ (kidAt t 0).kids, PrOk Xp pst x := fun x hm => (ih x (Nat.lt_trans (Xz hm) hc0)).st (by unfold pstB; rw [hff x hm]; simp) (Vc (okNd_kidAt' hok (by omega)) hm)
    refine Zg fun K10 hK10 => ?_
    refine Zf [3, 3, 0, 1, 2] ?_
    refine Zc rfl (fun _ => Zi (Zb rfl)) ?_
    refine Zc rfl (fun _ => Zm Yw (Zb rfl)) ?_
    refine Ya rfl (Zt Yt (Zb rfl) (fun _ => B3.at_ rfl)) ?_
    refine Zx [_, _, _] rfl Yn Xa (Zp Zl (Zp (Zb rfl) (Zp Zl (Yc)))) rfl rfl ?_
    intro b42 w42 N42
    have x42_3 := N42.ne B3
    have l42 := newge N42 g.size
    have g := g.trans (PF.of_g (N42.g))
    replace B3 := B3.grow (N42.g)
    have hP := hP.grow (N42.g)
    have hk0 := hk0.grow (N42.g)
    try have hkid := hkid.grow (N42.g)
    try have hkf := hkf.grow (N42.g)
    have B42 := N42.blk
    refine Yd rfl (Zu Zw Yl (Zk (Zb rfl) (Zk (Zb rfl) (Zn))) rfl) (Xd [[102, 117, 110, 99, 32], t.text, [40]] hP B42 (by omega) (by first | omega | (simp only [Xec, Xfc, Xgc, Xhc, Xic, Xjc, tabsL, Xkc]; omega) | (simp at hlen ⊢ <;> omega)) (by first | rfl | (simp [ht]; done) | (simpa using ht)) (Nat.le_of_ble_eq_true rfl)) ?_
    rintro v43 w43 ⟨rfl, hP, g43⟩
    refine ⟨fun h => absurd h (by decide), ?_⟩
    have g := g.trans g43
    replace B3 := B3.pf g43 rfl (by omega)
    replace B42 := B42.pf g43 rfl (by omega)
    have hk0 := hk0.pf g43 hD
    try have hkid := hkid.pf g43 hD
    try have hkf := hkf.pf g43 hD
    refine Zj [(0, _, _), (3, _, _)] (Za rfl (Za rfl (Zd _))) ?_
    refine Zh (hK10 _ _ ?_)
    refine Zg fun K11 hK11 => ?_
    refine Zg fun K12 hK12 => ?_
    refine Zf [3, 0, 3, 3, 0, 3, 3] ?_
    refine Zc rfl (fun _ => Zm Zv (Zb rfl)) ?_
    refine Ya rfl (Zt Zq (Zb rfl) (fun _ => B3.at_ rfl)) ?_
    obtain ⟨hpe, p_46, c_46, hcell, hkid⟩ := Xw hk0 (i := 0) (by omega)
    refine Zc rfl (fun _ => Xc Zo (Zb rfl) Zl (fun _ => by omega) (fun _ => hpe)) ?_
    refine Zc rfl (fun _ => Zm Zv (Zb rfl)) ?_
    refine Ya rfl (Zt Zq (Zb rfl) (fun _ => hcell 4 _ rfl)) ?_
    refine Zc rfl (fun _ => Xx Zo (Zb rfl)) ?_
    refine Zc rfl (fun _ => Zi Zl) ?_
    refine Zj [(0, _, _), (3, _, _), (48, _, _), (49, _, _), (50, _, _)] (Za rfl (Za rfl (Za rfl (Za rfl (Za rfl (Zd _)))))) ?_
    refine Zh (hK12 _ _ ?_)
    refine Yp ?_
    refine Wv (fun (i : Nat) u1 => (i ≤ (kidAt t 0).kids.length ∧ Prn n0 b (l ++ (([102, 117, 110, 99, 32] ++ t.text) ++ [40]) ++ joinX (((kidAt t 0).kids.take i).map fieldX)) k u1 ∧ Kd u1 D t.kids (.slice p t.kids.length c) ∧ Kd u1 D (kidAt t 0).kids (.slice p_46 (kidAt t 0).kids.length c_46)) ∧ PF n0 b w43 u1) [(0, True, _), (3, True, _), (48, True, _), (49, True, _)] (fun (i : Nat) => [(50, True, .int .i64 i)]) (fun (i : Nat) => (kidAt t 0).kids.length - i) (0) ⟨⟨Nat.zero_le _, by simpa [joinX] using hP, hk0, hkid⟩, PF.refl _ _ _⟩ (Za rfl (Za rfl (Za rfl (Za rfl (Za rfl (Zd _)))))) ?_
    rintro i u1 ⟨hI1, gl1⟩
    have g := g.trans gl1
    replace B3 := B3.pf gl1 rfl (by omega)
    obtain ⟨hi, hP, hk0, hkf⟩ := hI1
    refine Zg fun K13 hK13 => ?_
    refine Zf [3] ?_
    refine Zc rfl (fun _ => Vh (Zb rfl) (Zb rfl)) ?_
    refine Zh (hK13 _ _ ?_)
    refine Yi [(0, _, _), (3, _, _), (48, _, _), (49, _, _), (50, _, _), (51, _, _)] (Za rfl (Za rfl (Za rfl (Za rfl (Za rfl (Za rfl (Zd _))))))) ?_
    refine Zg fun K14 hK14 => ?_
    refine Zz (Zb rfl) (fun h4 => ?_) (fun h4 => ?_)
    · replace h4 : i < (kidAt t 0).kids.length := by simp only [decide_eq_true_eq] at h4; omega
      obtain ⟨_, _, hpe, _, hks⟩ := id hkf
      obtain ⟨b9, o9, rfl, hD9, xs, hR, hX⟩ := hks (by omega)
      injection hpe with hpe _ hce
      subst hpe hce
      obtain ⟨p9, c9, hcell, hkid⟩ := Yna hR hX h4
      have hjs := Yoc fieldX ((kidAt t 0).kids.take i) (kidAt t 0).kids[i]
      rw [← Jv h4, show ((kidAt t 0).kids.take i).length = i by rw [List.length_take]; omega] at hjs
      have hjl := joinX_le fieldX (kidAt t 0).kids (i + 1)
      rw [hjs] at hjl
      have hcs := Vvb (kidAt t 0).kids h4
      have hpf : pst (kidAt t 0).kids[i] k = fieldX (kidAt t 0).kids[i] := by rw [Vub (sh3 (hff _ (List.getElem_mem h4))).1]
      refine Yq (hK14 _ _ ?_)
      refine Yi [(0, _, _), (3, _, _), (48, _, _), (49, _, _), (50, _, _)] (Za rfl (Za rfl (Za rfl (Za rfl (Za rfl (Zd _)))))) ?_
      refine Zg fun K15 hK15 => ?_
      refine Yp ?_
      refine Zg fun K16 hK16 => ?_
      refine Zf [3, 3, 0, 1, 3, 2] ?_
      refine Zc rfl (fun _ => Zi (Zb rfl)) ?_
      refine Zc rfl (fun _ => Uc Zo (Zb rfl) (Zb rfl) (fun _ => by omega)) ?_
      refine Ya rfl (Yb Zr (Zb rfl) rfl (fun _ => hcell)) ?_
      refine Xr rfl Yo rfl ?_
      intro b5 w5 N5
      have x5_3 := N5.ne B3
      have l5 := newge N5 g.size
      try have l5_gl1 := newge N5 gl1.size
      have g := g.trans (PF.of_g (N5.g))
      try have gl1 := gl1.trans (PF.of_g (N5.g))
      replace B3 := B3.grow (N5.g)
      have hP := hP.grow (N5.g)
      have hk0 := hk0.grow (N5.g)
      try have hkid := hkid.grow (N5.g)
      try have hkf := hkf.grow (N5.g)
      have B5 := N5.blk
      refine Zc rfl (fun _ => Ze (Zb rfl)) ?_
      refine Yu rfl Xi (Zb rfl) (Zb rfl) rfl rfl B5 rfl rfl ?_
      intro wS1 hgS1 hzS1
      have C5 := B5
      clear B5
      intro B5
      replace B3 := B3.keep hgS1 (by intro h; injection h with h; first | exact x5_3 h.symm | exact x3_5 h | omega)
      have g := Wta g hgS1 (by omega)
      first | replace gl1 := Wta gl1 hgS1 (by omega) | clear gl1 | skip
      have hP := hP.keep hgS1 C5 rfl (by omega) (by omega)
      have hk0 := hk0.st hgS1 hD (by omega)
      have hkf := hkf.st hgS1 hD (by omega)
      have hkid := hkid.st hgS1 hD (by omega)
      refine Zj [(0, _, _), (3, _, _), (4, _, _), (5, _, _), (48, _, _), (49, _, _), (50, _, _)] (Za rfl (Za rfl (Za rfl (Za rfl (Za rfl (Za rfl (Za rfl (Zd _)))))))) ?_
      refine Zh (hK16 _ _ ?_)
      refine Zg fun K17 hK17 => ?_
      refine Zg fun K18 hK18 => ?_
      refine Zf [3, 3] ?_
      refine Zc rfl (fun _ => Zi (Zb rfl)) ?_
      refine Zc rfl (fun _ => Js (Zb rfl) Zl) ?_
      refine Zj [(0, _, _), (3, _, _), (5, _, _), (48, _, _), (49, _, _), (50, _, _), (56, _, _)] (Za rfl (Za rfl (Za rfl (Za rfl (Za rfl (Za rfl (Za rfl (Zd _)))))))) ?_
      refine Zh (hK18 _ _ ?_)
      refine Zz (Zb rfl) (fun h5 => ?_) (fun h5 => ?_)
      · rw [h5, cond_true] at hjs hjl
        simp only [Xec, Xfc, Xgc, Xhc, Xic, Xjc, tabsL, Xkc] at hjl
        refine Zf [3, 1, 2] ?_
        refine Zc rfl (fun _ => Zi (Zb rfl)) ?_
        refine Zx [_] rfl Yn Xa (Zp Zl (Yc)) rfl rfl ?_
        intro b58 w58 N58
        have x58_3 := N58.ne B3
        have x58_5 := N58.ne B5
        have l58 := newge N58 g.size
        try have l58_gl1 := newge N58 gl1.size
        have g := g.trans (PF.of_g (N58.g))
        try have gl1 := gl1.trans (PF.of_g (N58.g))
        replace B3 := B3.grow (N58.g)
        replace B5 := B5.grow (N58.g)
        have hP := hP.grow (N58.g)
        have hk0 := hk0.grow (N58.g)
        try have hkid := hkid.grow (N58.g)
        try have hkf := hkf.grow (N58.g)
        have B58 := N58.blk
        refine Yd rfl (Zu Zw Yl (Zk (Zb rfl) (Zk (Zb rfl) (Zn))) rfl) (Xd [[44, 32]] hP B58 (by omega) (by first | omega | (simp only [Xec, Xfc, Xgc, Xhc, Xic, Xjc, tabsL, Xkc]; omega) | (simp at hlen ⊢ <;> omega)) (by first | rfl | (simp [ht]; done) | (simpa using ht)) (Nat.le_of_ble_eq_true rfl)) ?_
        rintro v59 w59 ⟨rfl, hP, g59⟩
        refine ⟨fun h => absurd h (by decide), ?_⟩
        have g := g.trans g59
        try have gl1 := gl1.trans g59
        replace B3 := B3.pf g59 rfl (by omega)
        replace B5 := B5.pf g59 rfl (by omega)
        replace B58 := B58.pf g59 rfl (by omega)
        have hk0 := hk0.pf g59 hD
        try have hkid := hkid.pf g59 hD
        try have hkf := hkf.pf g59 hD
        refine Zj [(0, _, _), (3, _, _), (5, _, _), (48, _, _), (49, _, _), (50, _, _)] (Za rfl (Za rfl (Za rfl (Za rfl (Za rfl (Za rfl (Zd _))))))) ?_
        refine Zh (hK17 _ _ ?_)
        refine Zf [3, 0, 2] ?_
        refine Zc rfl (fun _ => Zi (Zb rfl)) ?_
        refine Ya rfl (Yb Zr (Zb rfl) rfl (fun _ => B5.row)) ?_
        refine Yd rfl (Zu Wp Yl (Zk (Zb rfl) (Zk (Zb rfl) (Zn))) rfl) (hst (kidAt t 0).kids[i] (List.getElem_mem h4) _ _ D n0 b _ k _ hkid hD hP (by rw [hpf]; simp only [Xec, Xfc, Xgc, Xhc, Xic, Xjc, tabsL, Xkc]; omega) (by omega)) ?_
        rintro v62 w62 ⟨rfl, hP, g62⟩
        refine ⟨fun h => absurd h (by decide), ?_⟩
        have g := g.trans g62
        try have gl1 := gl1.trans g62
        replace B3 := B3.pf g62 rfl (by omega)
        replace B5 := B5.pf g62 rfl (by omega)
        replace B58 := B58.pf g62 rfl (by omega)
        have hk0 := hk0.pf g62 hD
        try have hkid := hkid.pf g62 hD
        try have hkf := hkf.pf g62 hD
        refine Zj [(0, _, _), (3, _, _), (48, _, _), (49, _, _), (50, _, _)] (Za rfl (Za rfl (Za rfl (Za rfl (Za rfl (Zd _)))))) ?_
        refine Zh (hK15 _ _ ?_)
        refine Zf [3, 3] ?_
        refine Zc rfl (fun _ => Xq (Zb rfl) Zl (fun _ => by omega)) ?_
        refine Zc rfl (fun _ => Zi (Zb rfl)) ?_
        refine Zj [(50, _, _), (0, _, _), (3, _, _), (48, _, _), (49, _, _)] (Za rfl (Za rfl (Za rfl (Za rfl (Za rfl (Zd _)))))) ?_
        refine Zh (fun a ha => ?_)
        refine ⟨i + 1, ha, ⟨⟨h4, ?_, hk0, hkf⟩, gl1⟩, by omega⟩
        rw [hpf] at hP
        rw [hjs]; simpa only [List.append_assoc, List.flatten_cons, List.flatten_nil, List.append_nil] using hP
      rw [h5, cond_false, List.append_nil] at hjs hjl
      simp only [Xec, Xfc, Xgc, Xhc, Xic, Xjc, tabsL, Xkc] at hjl
      refine Yq (hK17 _ _ ?_)
      refine Yi [(0, _, _), (3, _, _), (5, _, _), (48, _, _), (49, _, _), (50, _, _)] (Za rfl (Za rfl (Za rfl (Za rfl (Za rfl (Za rfl (Zd _))))))) ?_
      refine Zf [3, 0, 2] ?_
      refine Zc rfl (fun _ => Zi (Zb rfl)) ?_
      refine Ya rfl (Yb Zr (Zb rfl) rfl (fun _ => B5.row)) ?_
      refine Yd rfl (Zu Wp Yl (Zk (Zb rfl) (Zk (Zb rfl) (Zn))) rfl) (hst (kidAt t 0).kids[i] (List.getElem_mem h4) _ _ D n0 b _ k _ hkid hD hP (by rw [hpf]; simp only [Xec, Xfc, Xgc, Xhc, Xic, Xjc, tabsL, Xkc]; omega) (by omega)) ?_
      rintro v62 w62 ⟨rfl, hP, g62⟩
      refine ⟨fun h => absurd h (by decide), ?_⟩
      have g := g.trans g62
      try have gl1 := gl1.trans g62
      replace B3 := B3.pf g62 rfl (by omega)
      replace B5 := B5.pf g62 rfl (by omega)
      have hk0 := hk0.pf g62 hD
      try have hkid := hkid.pf g62 hD
      try have hkf := hkf.pf g62 hD
      refine Zj [(0, _, _), (3, _, _), (48, _, _), (49, _, _), (50, _, _)] (Za rfl (Za rfl (Za rfl (Za rfl (Za rfl (Zd _)))))) ?_
      refine Zh (hK15 _ _ ?_)
      refine Zf [3, 3] ?_
      refine Zc rfl (fun _ => Xq (Zb rfl) Zl (fun _ => by omega)) ?_
      refine Zc rfl (fun _ => Zi (Zb rfl)) ?_
      refine Zj [(50, _, _), (0, _, _), (3, _, _), (48, _, _), (49, _, _)] (Za rfl (Za rfl (Za rfl (Za rfl (Za rfl (Zd _)))))) ?_
      refine Zh (fun a ha => ?_)
      refine ⟨i + 1, ha, ⟨⟨h4, ?_, hk0, hkf⟩, gl1⟩, by omega⟩
      rw [hpf] at hP
      rw [hjs]; simpa only [List.append_assoc, List.flatten_cons, List.flatten_nil, List.append_nil] using hP
    replace h4 : i = (kidAt t 0).kids.length := by simp only [decide_eq_false_iff_not] at h4; omega
    rw [h4, List.take_length] at hP
    refine Wa rfl (hK11 _ _ ?_)
    refine Yi [(0, _, _), (3, _, _)] (Za rfl (Za rfl (Zd _))) ?_
    refine Zg fun K19 hK19 => ?_
    refine Zf [3, 1, 2] ?_
    refine Zc rfl (fun _ => Zi (Zb rfl)) ?_
    refine Zx [_] rfl Yn Xa (Zp Zl (Yc)) rfl rfl ?_
    intro b65 w65 N65
    have x65_3 := N65.ne B3
    have l65 := newge N65 g.size
    try have l65_gl1 := newge N65 gl1.size
    have g := g.trans (PF.of_g (N65.g))
    try have gl1 := gl1.trans (PF.of_g (N65.g))
    replace B3 := B3.grow (N65.g)
    have hP := hP.grow (N65.g)
    have hk0 := hk0.grow (N65.g)
    try have hkid := hkid.grow (N65.g)
    try have hkf := hkf.grow (N65.g)
    have B65 := N65.blk
    refine Yd rfl (Zu Zw Yl (Zk (Zb rfl) (Zk (Zb rfl) (Zn))) rfl) (Xd [[41, 32]] hP B65 (by omega) (by first | omega | (simp only [Xec, Xfc, Xgc, Xhc, Xic, Xjc, tabsL, Xkc]; omega) | (simp at hlen ⊢ <;> omega)) (by first | rfl | (simp [ht]; done) | (simpa using ht)) (Nat.le_of_ble_eq_true rfl)) ?_
    rintro v66 w66 ⟨rfl, hP, g66⟩
    refine ⟨fun h => absurd h (by decide), ?_⟩
    have g := g.trans g66
    try have gl1 := gl1.trans g66
    replace B3 := B3.pf g66 rfl (by omega)
    replace B65 := B65.pf g66 rfl (by omega)
    have hk0 := hk0.pf g66 hD
    try have hkid := hkid.pf g66 hD
    try have hkf := hkf.pf g66 hD
    refine Zj [(0, _, _), (3, _, _), (64, _, _), (65, _, _)] (Za rfl (Za rfl (Za rfl (Za rfl (Zd _))))) ?_
    refine Zh (hK19 _ _ ?_)
    refine Zg fun K20 hK20 => ?_
    refine Zg fun K21 hK21 => ?_
    refine Zf [3, 0, 3, 3, 0, 3] ?_
    refine Zc rfl (fun _ => Zm Zv (Zb rfl)) ?_
    refine Ya rfl (Zt Zq (Zb rfl) (fun _ => B3.at_ rfl)) ?_
    obtain ⟨hpe, p_69, c_69, hcell, hkid⟩ := Xw hk0 (i := 1) (by omega)
    refine Zc rfl (fun _ => Xc Zo (Zb rfl) Zl (fun _ => by omega) (fun _ => hpe)) ?_
    refine Zc rfl (fun _ => Zm Ys (Zb rfl)) ?_
    refine Ya rfl (Zt Yy (Zb rfl) (fun _ => hcell 0 _ rfl)) ?_
    refine Zc rfl (fun _ => Qi (Zb rfl) Zl) ?_
    refine Zh (hK21 _ _ ?_)
    refine Zz (Zb rfl) (fun h6 => ?_) (fun h6 => ?_)
    · replace h6 : decide ((kidAt t 1).kind = 9) = false := by simpa using h6
      have hty := htn.resolve_left fun h => absurd (Qn h).1 (of_decide_eq_false h6)
      rw [h6, cond_false] at e hlen
      simp only [Xec, Xfc, Xgc, Xhc, Xic, Xjc, tabsL, Xkc] at hlen
      refine Zg fun K22 hK22 => ?_
      refine Zf [3, 3, 0, 3, 0, 2] ?_
      refine Zc rfl (fun _ => Zi (Zb rfl)) ?_
      refine Zc rfl (fun _ => Zm Zv (Zb rfl)) ?_
      refine Ya rfl (Zt Zq (Zb rfl) (fun _ => B3.at_ rfl)) ?_
      obtain ⟨hpe, p_76, c_76, hcell, hkid⟩ := Xw hk0 (i := 1) (by omega)
      refine Zc rfl (fun _ => Xc Zo (Zb rfl) Zl (fun _ => by omega) (fun _ => hpe)) ?_
      refine Ya rfl (Yb Zr (Zb rfl) rfl (fun _ => hcell)) ?_
      refine Yd rfl (Zu Ja Yl (Zk (Zb rfl) (Zk (Zb rfl) (Zn))) rfl) (typ_ok _ _ hP (typ_ne hty) (by first | omega | (simp only [Xec, Xfc, Xgc, Xhc, Xic, Xjc, tabsL, Xkc]; omega)) ⟨_, _, rfl⟩) ?_
      rintro v78 w78 ⟨rfl, hP, g78⟩
      refine ⟨fun h => absurd h (by decide), ?_⟩
      have g := g.trans g78
      try have gl1 := gl1.trans g78
      replace B3 := B3.pf g78 rfl (by omega)
      replace B65 := B65.pf g78 rfl (by omega)
      have hk0 := hk0.pf g78 hD
      try have hkid := hkid.pf g78 hD
      try have hkf := hkf.pf g78 hD
      refine Zj [(0, _, _), (3, _, _), (64, _, _), (65, _, _), (67, _, _), (68, _, _), (69, _, _), (70, _, _), (71, _, _), (72, _, _), (73, _, _), (74, _, _), (75, _, _), (76, _, _), (77, _, _)] (Za rfl (Za rfl (Za rfl (Za rfl (Za rfl (Za rfl (Za rfl (Za rfl (Za rfl (Za rfl (Za rfl (Za rfl (Za rfl (Za rfl (Za rfl (Zd _)))))))))))))))) ?_
      refine Zh (hK22 _ _ ?_)
      refine Zf [3, 1, 2] ?_
      refine Zc rfl (fun _ => Zi (Zb rfl)) ?_
      refine Zx [_] rfl Yn Xa (Zp Zl (Yc)) rfl rfl ?_
      intro b80 w80 N80
      have x80_3 := N80.ne B3
      have x80_65 := N80.ne B65
      have l80 := newge N80 g.size
      try have l80_gl1 := newge N80 gl1.size
      have g := g.trans (PF.of_g (N80.g))
      try have gl1 := gl1.trans (PF.of_g (N80.g))
      replace B3 := B3.grow (N80.g)
      replace B65 := B65.grow (N80.g)
      have hP := hP.grow (N80.g)
      have hk0 := hk0.grow (N80.g)
      try have hkid := hkid.grow (N80.g)
      try have hkf := hkf.grow (N80.g)
      have B80 := N80.blk
      refine Yd rfl (Zu Zw Yl (Zk (Zb rfl) (Zk (Zb rfl) (Zn))) rfl) (Xd [[32]] hP B80 (by omega) (by first | omega | (simp only [Xec, Xfc, Xgc, Xhc, Xic, Xjc, tabsL, Xkc]; omega) | (simp at hlen ⊢ <;> omega)) (by first | rfl | (simp [ht]; done) | (simpa using ht)) (Nat.le_of_ble_eq_true rfl)) ?_
      rintro v81 w81 ⟨rfl, hP, g81⟩
      refine ⟨fun h => absurd h (by decide), ?_⟩
      have g := g.trans g81
      try have gl1 := gl1.trans g81
      replace B3 := B3.pf g81 rfl (by omega)
      replace B65 := B65.pf g81 rfl (by omega)
      replace B80 := B80.pf g81 rfl (by omega)
      have hk0 := hk0.pf g81 hD
      try have hkid := hkid.pf g81 hD
      try have hkf := hkf.pf g81 hD
      refine Zj [(0, _, _), (3, _, _), (64, _, _), (65, _, _), (67, _, _), (68, _, _), (69, _, _), (70, _, _), (71, _, _), (72, _, _), (73, _, _), (74, _, _), (75, _, _), (76, _, _), (77, _, _), (79, _, _), (80, _, _)] (Za rfl (Za rfl (Za rfl (Za rfl (Za rfl (Za rfl (Za rfl (Za rfl (Za rfl (Za rfl (Za rfl (Za rfl (Za rfl (Za rfl (Za rfl (Za rfl (Za rfl (Zd _)))))))))))))))))) ?_
      refine Zh (hK20 _ _ ?_)
      refine Zf [3, 3, 0, 3, 0, 2] ?_
      refine Zc rfl (fun _ => Zi (Zb rfl)) ?_
      refine Zc rfl (fun _ => Zm Zv (Zb rfl)) ?_
      refine Ya rfl (Zt Zq (Zb rfl) (fun _ => B3.at_ rfl)) ?_
      obtain ⟨hpe, p_85, c_85, hcell, hkid⟩ := Xw hk0 (i := 2) (by omega)
      refine Zc rfl (fun _ => Xc Zo (Zb rfl) Zl (fun _ => by omega) (fun _ => hpe)) ?_
      refine Ya rfl (Yb Zr (Zb rfl) rfl (fun _ => hcell)) ?_
      refine Yd rfl (Zu Wk Yl (Zk (Zb rfl) (Zk (Zb rfl) (Zn))) rfl) (hB2 _ _ D n0 b _ k _ hkid hD hP (by first | omega | (simp only [Xec, Xfc, Xgc, Xhc, Xic, Xjc, tabsL, Xkc]; omega)) (by omega)) ?_
      rintro v87 w87 ⟨rfl, hP, g87⟩
      refine ⟨fun h => absurd h (by decide), ?_⟩
      have g := g.trans g87
      try have gl1 := gl1.trans g87
      replace B3 := B3.pf g87 rfl (by omega)
      replace B65 := B65.pf g87 rfl (by omega)
      replace B80 := B80.pf g87 rfl (by omega)
      have hk0 := hk0.pf g87 hD
      try have hkid := hkid.pf g87 hD
      try have hkf := hkf.pf g87 hD
      refine Zj [(0, _, _), (3, _, _), (64, _, _), (65, _, _), (67, _, _), (68, _, _), (69, _, _), (70, _, _), (71, _, _), (72, _, _), (73, _, _), (74, _, _), (75, _, _), (76, _, _), (77, _, _), (79, _, _), (80, _, _), (82, _, _), (83, _, _), (84, _, _), (85, _, _), (86, _, _)] (Za rfl (Za rfl (Za rfl (Za rfl (Za rfl (Za rfl (Za rfl (Za rfl (Za rfl (Za rfl (Za rfl (Za rfl (Za rfl (Za rfl (Za rfl (Za rfl (Za rfl (Za rfl (Za rfl (Za rfl (Za rfl (Za rfl (Zd _))))))))))))))))))))))) ?_
      refine Zh (Xs rfl ?_)
      refine ⟨rfl, ?_, g⟩
      rw [e]; simpa only [List.append_assoc, List.flatten_cons, List.flatten_nil, List.append_nil] using hP
    replace h6 : decide ((kidAt t 1).kind = 9) = true := by simpa using h6
    rw [h6, cond_true, List.append_nil] at e
    refine Yq (hK20 _ _ ?_)
    refine Zf [3, 3, 0, 3, 0, 2] ?_
    refine Zc rfl (fun _ => Zi (Zb rfl)) ?_
    refine Zc rfl (fun _ => Zm Zv (Zb rfl)) ?_
    refine Ya rfl (Zt Zq (Zb rfl) (fun _ => B3.at_ rfl)) ?_
    obtain ⟨hpe, p_85, c_85, hcell, hkid⟩ := Xw hk0 (i := 2) (by omega)
    refine Zc rfl (fun _ => Xc Zo (Zb rfl) Zl (fun _ => by omega) (fun _ => hpe)) ?_
    refine Ya rfl (Yb Zr (Zb rfl) rfl (fun _ => hcell)) ?_
    refine Yd rfl (Zu Wk Yl (Zk (Zb rfl) (Zk (Zb rfl) (Zn))) rfl) (hB2 _ _ D n0 b _ k _ hkid hD hP (by first | omega | (simp only [Xec, Xfc, Xgc, Xhc, Xic, Xjc, tabsL, Xkc]; omega)) (by omega)) ?_
    rintro v87 w87 ⟨rfl, hP, g87⟩
    refine ⟨fun h => absurd h (by decide), ?_⟩
    have g := g.trans g87
    try have gl1 := gl1.trans g87
    replace B3 := B3.pf g87 rfl (by omega)
    replace B65 := B65.pf g87 rfl (by omega)
    have hk0 := hk0.pf g87 hD
    try have hkid := hkid.pf g87 hD
    try have hkf := hkf.pf g87 hD
    refine Zj [(0, _, _), (3, _, _), (64, _, _), (65, _, _), (67, _, _), (68, _, _), (69, _, _), (70, _, _), (71, _, _), (72, _, _), (82, _, _), (83, _, _), (84, _, _), (85, _, _), (86, _, _)] (Za rfl (Za rfl (Za rfl (Za rfl (Za rfl (Za rfl (Za rfl (Za rfl (Za rfl (Za rfl (Za rfl (Za rfl (Za rfl (Za rfl (Za rfl (Zd _)))))))))))))))) ?_
    refine Zh (Xs rfl ?_)
    refine ⟨rfl, ?_, g⟩
    rw [e]; simpa only [List.append_assoc, List.flatten_cons, List.flatten_nil, List.append_nil] using hP
  (try simp only [bsimp] at h3)
  refine Zg fun K23 hK23 => ?_
  refine Zf [3, 3] ?_
  refine Zc rfl (fun _ => Yg (Zb rfl) Zl) ?_
  refine Zc rfl (fun _ => Ze (Zb rfl)) ?_
  refine Zj [(0, _, _), (3, _, _), (88, _, _)] (Za rfl (Za rfl (Za rfl (Zd _)))) ?_
  refine Zh (hK23 _ _ ?_)
  refine Zz (Zb rfl) (fun h7 => ?_) (fun h7 => ?_)
  · replace h7 := of_decide_eq_true h7
    obtain ⟨ht, hl, hty, hin⟩ := sh6 (hx.elim (fun h => absurd h.1 (by omega)) fun h => h.elim (fun h => absurd h.1 (by omega)) fun h => h.elim (fun h => absurd h.1 (by omega)) fun h => h.2)
    have hc1 := Xf (t := t) (i := 1) (by omega)
    have e := decX_6 h7 hl k
    rw [e] at hlen
    simp only [Xec, Xfc, Xgc, Xhc, Xic, Xjc, tabsL, Xkc] at hlen
    refine Zg fun K24 hK24 => ?_
    refine Zf [3, 3, 0, 1, 2] ?_
    refine Zc rfl (fun _ => Zi (Zb rfl)) ?_
    refine Zc rfl (fun _ => Zm Yw (Zb rfl)) ?_
    refine Ya rfl (Zt Yt (Zb rfl) (fun _ => B3.at_ rfl)) ?_
    refine Zx [_, _, _] rfl Yn Xa (Zp Zl (Zp (Zb rfl) (Zp Zl (Yc)))) rfl rfl ?_
    intro b93 w93 N93
    have x93_3 := N93.ne B3
    have l93 := newge N93 g.size
    have g := g.trans (PF.of_g (N93.g))
    replace B3 := B3.grow (N93.g)
    have hP := hP.grow (N93.g)
    have hk0 := hk0.grow (N93.g)
    try have hkid := hkid.grow (N93.g)
    try have hkf := hkf.grow (N93.g)
    have B93 := N93.blk
    refine Yd rfl (Zu Zw Yl (Zk (Zb rfl) (Zk (Zb rfl) (Zn))) rfl) (Xd [[118, 97, 114, 32], t.text, [32]] hP B93 (by omega) (by first | omega | (simp only [Xec, Xfc, Xgc, Xhc, Xic, Xjc, tabsL, Xkc]; omega) | (simp at hlen ⊢ <;> omega)) (by first | rfl | (simp [ht]; done) | (simpa using ht)) (Nat.le_of_ble_eq_true rfl)) ?_
    rintro v94 w94 ⟨rfl, hP, g94⟩
    refine ⟨fun h => absurd h (by decide), ?_⟩
    have g := g.trans g94
    replace B3 := B3.pf g94 rfl (by omega)
    replace B93 := B93.pf g94 rfl (by omega)
    have hk0 := hk0.pf g94 hD
    try have hkid := hkid.pf g94 hD
    try have hkf := hkf.pf g94 hD
    refine Zj [(0, _, _), (3, _, _)] (Za rfl (Za rfl (Zd _))) ?_
    refine Zh (hK24 _ _ ?_)
    refine Zg fun K25 hK25 => ?_
    refine Zf [3, 3, 0, 3, 0, 2] ?_
    refine Zc rfl (fun _ => Zi (Zb rfl)) ?_
    refine Zc rfl (fun _ => Zm Zv (Zb rfl)) ?_
    refine Ya rfl (Zt Zq (Zb rfl) (fun _ => B3.at_ rfl)) ?_
    obtain ⟨hpe, p_98, c_98, hcell, hkid⟩ := Xw hk0 (i := 0) (by omega)
    refine Zc rfl (fun _ => Xc Zo (Zb rfl) Zl (fun _ => by omega) (fun _ => hpe)) ?_
    refine Ya rfl (Yb Zr (Zb rfl) rfl (fun _ => hcell)) ?_
    refine Yd rfl (Zu Ja Yl (Zk (Zb rfl) (Zk (Zb rfl) (Zn))) rfl) (typ_ok _ _ hP (typ_ne hty) (by first | omega | (simp only [Xec, Xfc, Xgc, Xhc, Xic, Xjc, tabsL, Xkc]; omega)) ⟨_, _, rfl⟩) ?_
    rintro v100 w100 ⟨rfl, hP, g100⟩
    refine ⟨fun h => absurd h (by decide), ?_⟩
    have g := g.trans g100
    replace B3 := B3.pf g100 rfl (by omega)
    replace B93 := B93.pf g100 rfl (by omega)
    have hk0 := hk0.pf g100 hD
    try have hkid := hkid.pf g100 hD
    try have hkf := hkf.pf g100 hD
    refine Zj [(0, _, _), (3, _, _)] (Za rfl (Za rfl (Zd _))) ?_
    refine Zh (hK25 _ _ ?_)
    refine Zg fun K26 hK26 => ?_
    refine Zf [3, 0, 3, 3, 0, 3] ?_
    refine Zc rfl (fun _ => Zm Zv (Zb rfl)) ?_
    refine Ya rfl (Zt Zq (Zb rfl) (fun _ => B3.at_ rfl)) ?_
    obtain ⟨hpe, p_103, c_103, hcell, hkid⟩ := Xw hk0 (i := 1) (by omega)
    refine Zc rfl (fun _ => Xc Zo (Zb rfl) Zl (fun _ => by omega) (fun _ => hpe)) ?_
    refine Zc rfl (fun _ => Zm Ys (Zb rfl)) ?_
    refine Ya rfl (Zt Yy (Zb rfl) (fun _ => hcell 0 _ rfl)) ?_
    refine Zc rfl (fun _ => Qi (Zb rfl) Zl) ?_
    refine Zj [(0, _, _), (3, _, _), (106, _, _)] (Za rfl (Za rfl (Za rfl (Zd _)))) ?_
    refine Zh (hK26 _ _ ?_)
    refine Zz (Zb rfl) (fun h8 => ?_) (fun h8 => ?_)
    · replace h8 : decide ((kidAt t 1).kind = 9) = false := by simpa using h8
      have hE1 := ih.e (i := 1) (by omega) (hin.resolve_left fun h => absurd (Qn h).1 (of_decide_eq_false h8)) hok
      rw [h8, cond_false] at e hlen
      simp only [Xec, Xfc, Xgc, Xhc, Xic, Xjc, tabsL, Xkc] at hlen
      refine Zg fun K27 hK27 => ?_
      refine Zf [3, 1, 2] ?_
      refine Zc rfl (fun _ => Zi (Zb rfl)) ?_
      refine Zx [_] rfl Yn Xa (Zp Zl (Yc)) rfl rfl ?_
      intro b108 w108 N108
      have x108_3 := N108.ne B3
      have x108_93 := N108.ne B93
      have l108 := newge N108 g.size
      have g := g.trans (PF.of_g (N108.g))
      replace B3 := B3.grow (N108.g)
      replace B93 := B93.grow (N108.g)
      have hP := hP.grow (N108.g)
      have hk0 := hk0.grow (N108.g)
      try have hkid := hkid.grow (N108.g)
      try have hkf := hkf.grow (N108.g)
      have B108 := N108.blk
      refine Yd rfl (Zu Zw Yl (Zk (Zb rfl) (Zk (Zb rfl) (Zn))) rfl) (Xd [[32, 61, 32]] hP B108 (by omega) (by first | omega | (simp only [Xec, Xfc, Xgc, Xhc, Xic, Xjc, tabsL, Xkc]; omega) | (simp at hlen ⊢ <;> omega)) (by first | rfl | (simp [ht]; done) | (simpa using ht)) (Nat.le_of_ble_eq_true rfl)) ?_
      rintro v109 w109 ⟨rfl, hP, g109⟩
      refine ⟨fun h => absurd h (by decide), ?_⟩
      have g := g.trans g109
      replace B3 := B3.pf g109 rfl (by omega)
      replace B93 := B93.pf g109 rfl (by omega)
      replace B108 := B108.pf g109 rfl (by omega)
      have hk0 := hk0.pf g109 hD
      try have hkid := hkid.pf g109 hD
      try have hkf := hkf.pf g109 hD
      refine Zj [(0, _, _), (3, _, _)] (Za rfl (Za rfl (Zd _))) ?_
      refine Zh (hK27 _ _ ?_)
      refine Zf [3, 3, 0, 3, 0, 2] ?_
      refine Zc rfl (fun _ => Zi (Zb rfl)) ?_
      refine Zc rfl (fun _ => Zm Zv (Zb rfl)) ?_
      refine Ya rfl (Zt Zq (Zb rfl) (fun _ => B3.at_ rfl)) ?_
      obtain ⟨hpe, p_113, c_113, hcell, hkid⟩ := Xw hk0 (i := 1) (by omega)
      refine Zc rfl (fun _ => Xc Zo (Zb rfl) Zl (fun _ => by omega) (fun _ => hpe)) ?_
      refine Ya rfl (Yb Zr (Zb rfl) rfl (fun _ => hcell)) ?_
      refine Yd rfl (Zu Xh Yl (Zk (Zb rfl) (Zk (Zb rfl) (Zn))) rfl) (hE1 _ _ D n0 b _ k _ hkid hD hP (by first | omega | (simp only [Xec, Xfc, Xgc, Xhc, Xic, Xjc, tabsL, Xkc]; omega)) (by omega)) ?_
      rintro v115 w115 ⟨rfl, hP, g115⟩
      refine ⟨fun h => absurd h (by decide), ?_⟩
      have g := g.trans g115
      replace B3 := B3.pf g115 rfl (by omega)
      replace B93 := B93.pf g115 rfl (by omega)
      replace B108 := B108.pf g115 rfl (by omega)
      have hk0 := hk0.pf g115 hD
      try have hkid := hkid.pf g115 hD
      try have hkf := hkf.pf g115 hD
      refine Zj [] (Zd _) ?_
      refine Zh (Xs rfl ?_)
      refine ⟨rfl, ?_, g⟩
      rw [e]; simpa only [List.append_assoc, List.flatten_cons, List.flatten_nil, List.append_nil] using hP
    replace h8 : decide ((kidAt t 1).kind = 9) = true := by simpa using h8
    rw [h8, cond_true, List.append_nil] at e
    refine Yq (Xs rfl ?_)
    refine ⟨rfl, ?_, g⟩
    rw [e]; simpa only [List.append_assoc, List.flatten_cons, List.flatten_nil, List.append_nil] using hP
  (try simp only [bsimp] at h7)
  exfalso; simp only [bsimp, decide_eq_false_iff_not] at h1 h2 h3 h7; omega
theorem st_kinds {t : Nd} (h : stmtB t = true) : t.kind = 6 ∨ t.kind = 10 ∨ t.kind = 11 ∨ t.kind = 12 ∨ t.kind = 13 ∨ t.kind = 14 ∨ t.kind = 15 ∨ t.kind = 16 ∨ t.kind = 17 ∨ t.kind = 21 ∨ t.kind = 18 ∨ t.kind = 19 ∨ t.kind = 20 ∨ t.kind = 22 := by
  have h1 := (Bool.and_eq_true_iff.1 h).1
  unfold stK at h1
  simp only [anyK, Bool.or_eq_true, decide_eq_true_eq] at h1
  omega
theorem stmt_ok {t : Nd} (ih : PBel t) (hx : pstB t = true) (hok : okNd t) : PrOk Xp pst t := by
  intro p c D n0 b l k w hk0 hD hP hlen hc
  have g := PF.refl n0 b w
  have hbn := hP.ge
  have hcs := pst_cases hx
  refine Ym (m := 26) Wya rfl rfl [(0, True, _), (1, True, _)] (Za rfl (Za rfl (Zd _))) ?_
  refine Zg fun K1 hK1 => ?_
  refine Zf [1] ?_
  refine Wd rfl (Zb rfl) rfl ?_
  intro b3 w3 N3
  have l3 := newge N3 g.size
  have g := g.trans (PF.of_g (N3.g))
  have hP := hP.grow (N3.g)
  have hk0 := hk0.grow (N3.g)
  have B3 := N3.blk
  refine Zj [(0, _, _), (3, _, _)] (Za rfl (Za rfl (Zd _))) ?_
  refine Zh (hK1 _ _ ?_)
  refine Zg fun K2 hK2 => ?_
  refine Zf [3, 0] ?_
  refine Zc rfl (fun _ => Zm Ys (Zb rfl)) ?_
  refine Ya rfl (Zt Yy (Zb rfl) (fun _ => B3.at_ rfl)) ?_
  refine Zj [(0, _, _), (3, _, _), (5, _, _)] (Za rfl (Za rfl (Za rfl (Zd _)))) ?_
  refine Zh (hK2 _ _ ?_)
  refine Yp ?_
  refine Zg fun K3 hK3 => ?_
  refine Zg fun K4 hK4 => ?_
  refine Zf [3, 3] ?_
  refine Zc rfl (fun _ => Yg (Zb rfl) Zl) ?_
  refine Zc rfl (fun _ => Ze (Zb rfl)) ?_
  refine Zj [(0, _, _), (3, _, _), (5, _, _), (9, _, _)] (Za rfl (Za rfl (Za rfl (Za rfl (Zd _))))) ?_
  refine Zh (hK4 _ _ ?_)
  refine' Yk [(0, _, _), (3, _, _), (5, _, _)] (Za rfl (Za rfl (Za rfl (Za rfl (Zd _))))) rfl (fun hb1 => ?y1) (hK3 _ _ ?n1)
  case y1 =>
   refine Zg fun K5 hK5 => ?_
   refine Zf [3, 3] ?_
   refine Zc rfl (fun _ => Yg (Zb rfl) Zl) ?_
   refine Zc rfl (fun _ => Ze (Zb rfl)) ?_
   refine Zj [(0, _, _), (3, _, _), (5, _, _), (9, _, _)] (Za rfl (Za rfl (Za rfl (Za rfl (Zd _))))) ?_
   refine Zh (hK5 _ _ ?_)
   refine' Yk [(0, _, _), (3, _, _), (5, _, _)] (Za rfl (Za rfl (Za rfl (Za rfl (Zd _))))) rfl (fun hb2 => ?y2) (fun a ha => ⟨ha, rfl⟩)
   case y2 =>
    refine Zg fun K6 hK6 => ?_
    refine Zf [3, 3] ?_
    refine Zc rfl (fun _ => Yg (Zb rfl) Zl) ?_
    refine Zc rfl (fun _ => Ze (Zb rfl)) ?_
    refine Zj [(0, _, _), (3, _, _), (5, _, _), (9, _, _)] (Za rfl (Za rfl (Za rfl (Za rfl (Zd _))))) ?_
    refine Zh (hK6 _ _ ?_)
    refine' Yk [(0, _, _), (3, _, _), (5, _, _)] (Za rfl (Za rfl (Za rfl (Za rfl (Zd _))))) rfl (fun hb3 => ?y3) (fun a ha => ⟨ha, rfl⟩)
    case y3 =>
     refine Zf [3, 3] ?_
     refine Zc rfl (fun _ => Yg (Zb rfl) Zl) ?_
     refine Zc rfl (fun _ => Ze (Zb rfl)) ?_
     refine Zj [(9, _, _), (0, _, _), (3, _, _), (5, _, _)] (Za rfl (Za rfl (Za rfl (Za rfl (Zd _))))) ?_
     exact Zh (fun a ha => ⟨ha, rfl⟩)
  case n1 =>
   refine Zz (Zb rfl) (fun h4 => ?_) (fun h4 => ?_)
   · simp only [Bool.or_eq_true, decide_eq_true_eq] at h4
     replace hcs : (t.kind = 2 ∧ declB t = true) ∨ (t.kind = 3 ∧ fieldB t = true) ∨ (t.kind = 4 ∧ declB t = true) ∨ (t.kind = 6 ∧ varB t = true) := by
       rcases hcs with h | h | h | h | h | h
       · exact .inl h
       · exact .inr (.inl h)
       · exact .inr (.inr (.inl h))
       · exact .inr (.inr (.inr h))
       · have := h.1; omega
       · have := st_kinds h
         exact .inr (.inr (.inr ⟨by omega, sh6s (by omega) h⟩))
     have e : pst t k = pst t k := rfl
     refine Zf [3, 0, 2] ?_
     refine Zc rfl (fun _ => Zi (Zb rfl)) ?_
     refine Ya rfl (Yb Zr (Zb rfl) rfl (fun _ => B3.row)) ?_
     refine Yd rfl (Zu Yja Yl (Zk (Zb rfl) (Zk (Zb rfl) (Zn))) rfl) (Ypc ih hcs hok _ _ D n0 b _ k _ hk0 hD hP hlen hc) ?_
     rintro v16 w16 ⟨rfl, hP, g16⟩
     refine ⟨fun h => absurd h (by decide), ?_⟩
     have g := g.trans g16
     replace B3 := B3.pf g16 rfl (by omega)
     have hk0 := hk0.pf g16 hD
     refine Zj [] (Zd _) ?_
     refine Zh (Xs rfl ?_)
     refine ⟨rfl, ?_, g⟩
     rw [e]; exact hP
   simp only [Bool.or_eq_false_iff, decide_eq_false_iff_not] at h4
   refine Zg fun K7 hK7 => ?_
   refine Zg fun K8 hK8 => ?_
   refine Zf [3, 3] ?_
   refine Zc rfl (fun _ => Yg (Zb rfl) Zl) ?_
   refine Zc rfl (fun _ => Ze (Zb rfl)) ?_
   refine Zj [(0, _, _), (3, _, _), (5, _, _), (17, _, _)] (Za rfl (Za rfl (Za rfl (Za rfl (Zd _))))) ?_
   refine Zh (hK8 _ _ ?_)
   refine' Yk [(0, _, _), (3, _, _)] (Za rfl (Za rfl (Za rfl (Zd _)))) rfl (fun hb5 => ?y5) (hK7 _ _ ?n5)
   case y5 =>
    refine Zg fun K9 hK9 => ?_
    refine Zf [3, 3] ?_
    refine Zc rfl (fun _ => Yg (Zb rfl) Zl) ?_
    refine Zc rfl (fun _ => Ze (Zb rfl)) ?_
    refine Zj [(0, _, _), (3, _, _), (5, _, _), (17, _, _)] (Za rfl (Za rfl (Za rfl (Za rfl (Zd _))))) ?_
    refine Zh (hK9 _ _ ?_)
    refine' Yk [(0, _, _), (3, _, _)] (Za rfl (Za rfl (Za rfl (Zd _)))) rfl (fun hb6 => ?y6) (fun a ha => ⟨ha, rfl⟩)
    case y6 =>
     refine Zg fun K10 hK10 => ?_
     refine Zf [3, 3] ?_
     refine Zc rfl (fun _ => Yg (Zb rfl) Zl) ?_
     refine Zc rfl (fun _ => Ze (Zb rfl)) ?_
     refine Zj [(0, _, _), (3, _, _), (5, _, _), (17, _, _)] (Za rfl (Za rfl (Za rfl (Za rfl (Zd _))))) ?_
     refine Zh (hK10 _ _ ?_)
     refine' Yk [(0, _, _), (3, _, _)] (Za rfl (Za rfl (Za rfl (Zd _)))) rfl (fun hb7 => ?y7) (fun a ha => ⟨ha, rfl⟩)
     case y7 =>
      refine Zg fun K11 hK11 => ?_
      refine Zf [3, 3] ?_
      refine Zc rfl (fun _ => Yg (Zb rfl) Zl) ?_
      refine Zc rfl (fun _ => Ze (Zb rfl)) ?_
      refine Zj [(0, _, _), (3, _, _), (5, _, _), (17, _, _)] (Za rfl (Za rfl (Za rfl (Za rfl (Zd _))))) ?_
      refine Zh (hK11 _ _ ?_)
      refine' Yk [(0, _, _), (3, _, _)] (Za rfl (Za rfl (Za rfl (Zd _)))) rfl (fun hb8 => ?y8) (fun a ha => ⟨ha, rfl⟩)
      case y8 =>
       refine Zf [3, 3] ?_
       refine Zc rfl (fun _ => Yg (Zb rfl) Zl) ?_
       refine Zc rfl (fun _ => Ze (Zb rfl)) ?_
       refine Zj [(17, _, _), (0, _, _), (3, _, _)] (Za rfl (Za rfl (Za rfl (Zd _)))) ?_
       exact Zh (fun a ha => ⟨ha, rfl⟩)
   case n5 =>
    refine Zz (Zb rfl) (fun h9 => ?_) (fun h9 => ?_)
    · simp only [Bool.or_eq_true, decide_eq_true_eq] at h9
      have hkk : t.kind = 18 ∨ t.kind = 19 ∨ t.kind = 10 ∨ t.kind = 22 ∨ t.kind = 23 := by omega
      replace hcs : (t.kind = 23 ∧ caseB t = true) ∨ stmtB t = true := by
        rcases hcs with h | h | h | h | h | h
        · have := h.1; omega
        · have := h.1; omega
        · have := h.1; omega
        · have := h.1; omega
        · exact .inl h
        · exact .inr h
      have e : pst t k = pst t k := rfl
      refine Zf [3, 0, 2] ?_
      refine Zc rfl (fun _ => Zi (Zb rfl)) ?_
      refine Ya rfl (Yb Zr (Zb rfl) rfl (fun _ => B3.row)) ?_
      refine Yd rfl (Zu Xra Yl (Zk (Zb rfl) (Zk (Zb rfl) (Zn))) rfl) (compound_ok ih hcs hok hkk _ _ D n0 b _ k _ hk0 hD hP hlen hc) ?_
      rintro v25 w25 ⟨rfl, hP, g25⟩
      refine ⟨fun h => absurd h (by decide), ?_⟩
      have g := g.trans g25
      replace B3 := B3.pf g25 rfl (by omega)
      have hk0 := hk0.pf g25 hD
      refine Zj [] (Zd _) ?_
      refine Zh (Xs rfl ?_)
      refine ⟨rfl, ?_, g⟩
      rw [e]; exact hP
    simp only [Bool.or_eq_false_iff, decide_eq_false_iff_not] at h9
    replace hcs : stmtB t = true := by
      rcases hcs with h | h | h | h | h | h
      · have := h.1; omega
      · have := h.1; omega
      · have := h.1; omega
      · have := h.1; omega
      · have := h.1; omega
      · exact h
    have hkk := st_kinds hcs
    replace hkk : t.kind = 11 ∨ t.kind = 12 ∨ t.kind = 13 ∨ t.kind = 14 ∨ t.kind = 15 ∨ t.kind = 16 ∨ t.kind = 17 ∨ t.kind = 20 ∨ t.kind = 21 := by omega
    have e : pst t k = stT t k := by rw [Zma hcs]
    refine Zf [3, 0, 2] ?_
    refine Zc rfl (fun _ => Zi (Zb rfl)) ?_
    refine Ya rfl (Yb Zr (Zb rfl) rfl (fun _ => B3.row)) ?_
    refine Yd rfl (Zu Vaa Yl (Zk (Zb rfl) (Zk (Zb rfl) (Zn))) rfl) (simple_ok ih hcs hok hkk _ _ D n0 b _ k _ hk0 hD hP (by rw [← e]; exact hlen) hc) ?_
    rintro v8 w8 ⟨rfl, hP, g8⟩
    refine ⟨fun h => absurd h (by decide), ?_⟩
    have g := g.trans g8
    replace B3 := B3.pf g8 rfl (by omega)
    have hk0 := hk0.pf g8 hD
    refine Zj [] (Zd _) ?_
    refine Zh (Xs rfl ?_)
    refine ⟨rfl, ?_, g⟩
    rw [e]; exact hP
theorem pok_all (t : Nd) : POk t := by
  have h : ∀ n, ∀ t, count t = n → POk t := by
    intro n
    induction n using Nat.strongRecOn with
    | ind n ih =>
      intro t hn
      have hb : PBel t := fun k hk => ih (count k) (by omega) k rfl
      exact ⟨fun hx hok => expr_ok hb hx hok, fun hx hok => stmt_ok hb hx hok⟩
  exact h _ t rfl
theorem print_stmt {t : Nd} (hx : pstB t = true) (hok : okNd t) : PrOk Xp pst t := (pok_all t).st hx hok
end Go.Rk
namespace Go.Rk
open Go Go.Shelf Go.RowKit
def lays169_ren : Go.Shelf.Ren := ⟨fun | 169 => 44 | n => n, fun | 70 => 56 | 9 => 9 | 0 => 0 | 72 => 59 | 37 => 57 | 127 => 89 | 3 => 3 | 5 => 5 | n => n, fun | n => n⟩
theorem lays169 : Go.Proofs.Lays.n169 PP lays169_ren := {
 mixed := by kernel_rfl
 f169 := Go.Proofs.Tryz.func44.trans (congrArg some (by kernel_rfl))
 t0 := Go.Proofs.Tryz.underlying0
 a0 := Go.Proofs.Tryz.isAgg0
 z0 := Go.Proofs.Tryz.sizeOf0
 v0 := Go.Proofs.Tryz.zeroValue0
 t3 := Go.Proofs.Tryz.underlying3
 a3 := Go.Proofs.Tryz.isAgg3
 z3 := Go.Proofs.Tryz.sizeOf3
 v3 := Go.Proofs.Tryz.zeroValue3
 t9 := Go.Proofs.Tryz.underlying9
 a9 := Go.Proofs.Tryz.isAgg9
 z9 := Go.Proofs.Tryz.sizeOf9
 v9 := Go.Proofs.Tryz.zeroValue9
 t37 := Go.Proofs.Tryz.underlying57
 a37 := Go.Proofs.Tryz.isAgg57
 z37 := Go.Proofs.Tryz.sizeOf57
 v37 := Go.Proofs.Tryz.zeroValue57
 t70 := Go.Proofs.Tryz.underlying56
 a70 := Go.Proofs.Tryz.isAgg56
 z70 := Go.Proofs.Tryz.sizeOf56
 v70 := Go.Proofs.Tryz.zeroValue56
 t72 := Go.Proofs.Tryz.underlying59
 a72 := Go.Proofs.Tryz.isAgg59
 z72 := Go.Proofs.Tryz.sizeOf59
 v72 := Go.Proofs.Tryz.zeroValue59
 t127 := Go.Proofs.Tryz.underlying89
 a127 := Go.Proofs.Tryz.isAgg89
 z127 := Go.Proofs.Tryz.sizeOf89
 v127 := Go.Proofs.Tryz.zeroValue89 }
end Go.Rk
namespace Go.Proofs
open Go Go.Shelf Go.RowKit
variable {P : Program} {ρ : Ren}
set_option maxHeartbeats 1000000 in
set_option maxRecDepth 100000 in
theorem wide_string (L : Lays.n169 P ρ) (c5 : P.cellsOf (ρ.t 5) = 1) (T : TypeId) (B b : Nat) (p x : Value) (g cap : Nat) (cur : Array Value) (l : List UInt8) (w : World) (hbk : w.heap[b]? = some (.cells #[p, .slice (some ⟨g, 0, none⟩) l.length cap, x] T (0, 0))) (h0 : l ≠ [])
  (hbg : B ≤ g) (hg : w.heap[g]? = some (.cells cur (ρ.t 5) (0, 0))) (hnc : l.length ≤ cap) (hcm : cap ≤ maxLen) (hcs : cur.size = cap * 1) (hcells : ∀ j y, l[j]? = some y → w.cell? ((⟨g, 0, none⟩ : Addr).add j) = some (.int .u8 y.toNat)) :
  Calls P (ρ.f 169) #[.pointer (some ⟨b, 0, none⟩)] w fun e w' => e = .returned (.string ⟨l.toArray⟩) ∧ Below B w w' := by
 have hl0 : l.length ≠ 0 := by simpa using h0
 have c1 : w.drew.cell? ⟨b, 1, none⟩ = some (.slice (some ⟨g, 0, none⟩) l.length cap) := by
  have : w.drew.heap[b]? = some (.cells #[p, .slice (some ⟨g, 0, none⟩) l.length cap, x] T (0, 0)) := hbk
  rw [Lib.cell_of_heap this]; rfl
 have hSD : (Builtin.unsafeSliceData_ #[(ρ.t 37)] (ρ.t 127) #[.slice (some ⟨g, 0, none⟩) l.length cap]).run P w.drew = .ok (.pointer (some ⟨g, 0, none⟩)) w.drew :=
  Lib.run_unsafeSliceData_row _ _ _ _ _ _ (by omega)
 have hUS : (Builtin.unsafeString_ #[(ρ.t 127), (ρ.t 3)] (ρ.t 9) #[.pointer (some ⟨g, 0, none⟩), .int .i64 l.length]).run P w.drew = .ok (.string ⟨l.toArray⟩) (w.drew.freeze ⟨g, 0, none⟩ l.length) := by
  refine Lib.run_unsafeString_row w.drew (ρ.t 127) (ρ.t 3) (ρ.t 9) (ρ.t 5) L.t127 c5 g cur.size (by have hg' : w.drew.heap[g]? = some (.cells cur (ρ.t 5) (0, 0)) := hg; simp [World.shape?, hg']) l h0 (by omega) (by unfold maxLen at hcm; omega) ?_
  intro j y hy
  have := hcells j y hy; exact this
 have mixed := L.mixed
 have t72 := L.t72; have a72 := L.a72; have z72 := L.z72; have v72 := L.v72; have u72 := run_underlying L.t72
 have t70 := L.t70; have a70 := L.a70; have z70 := L.z70; have v70 := L.v70; have u70 := run_underlying L.t70
 have t37 := L.t37; have a37 := L.a37; have z37 := L.z37; have v37 := L.v37; have u37 := run_underlying L.t37
 have t127 := L.t127; have a127 := L.a127; have z127 := L.z127; have v127 := L.v127; have u127 := run_underlying L.t127
 have t3 := L.t3; have a3 := L.a3; have z3 := L.z3; have v3 := L.v3; have u3 := run_underlying L.t3
 have t9 := L.t9; have a9 := L.a9; have z9 := L.z9; have v9 := L.v9; have u9 := run_underlying L.t9
 go_enter L.f169, Body.n169_ntmps ρ
 go_wp2
 go_region_o
 all_goals (go_wp2; go_ret; exact ⟨rfl, Lib.below_freeze (Below.drew (Below.refl B w)) (p := ⟨g, 0, none⟩) hbg _⟩)
set_option maxHeartbeats 2000000 in
set_option maxRecDepth 100000 in
theorem wide_string_nil (L : Lays.n169 P ρ) (T : TypeId) (B b : Nat) (p x : Value) (w : World) (hbk : w.heap[b]? = some (.cells #[p, .slice none 0 0, x] T (0, 0))) :
  Calls P (ρ.f 169) #[.pointer (some ⟨b, 0, none⟩)] w fun e w' => e = .returned (.string ⟨#[]⟩) ∧ Below B w w' := by
 have hUS : ∀ (W : World) (q : Option Addr), (Builtin.unsafeString_ #[(ρ.t 127), (ρ.t 3)] (ρ.t 9) #[.pointer q, .int .i64 0]).run P W = .ok (.string .empty) W := fun W q => Lib.run_unsafeString_none W _ _ _ q
 have c1 : w.drew.cell? ⟨b, 1, none⟩ = some (.slice none 0 0) := by
  have : w.drew.heap[b]? = some (.cells #[p, .slice none 0 0, x] T (0, 0)) := hbk
  rw [Lib.cell_of_heap this]; rfl
 have hSD : (Builtin.unsafeSliceData_ #[(ρ.t 37)] (ρ.t 127) #[.slice none 0 0]).run P w.drew = .ok (.pointer none) w.drew := rfl
 have mixed := L.mixed
 have t72 := L.t72; have a72 := L.a72; have z72 := L.z72; have v72 := L.v72; have u72 := run_underlying L.t72
 have t70 := L.t70; have a70 := L.a70; have z70 := L.z70; have v70 := L.v70; have u70 := run_underlying L.t70
 have t37 := L.t37; have a37 := L.a37; have z37 := L.z37; have v37 := L.v37; have u37 := run_underlying L.t37
 have t127 := L.t127; have a127 := L.a127; have z127 := L.z127; have v127 := L.v127; have u127 := run_underlying L.t127
 have t3 := L.t3; have a3 := L.a3; have z3 := L.z3; have v3 := L.v3; have u3 := run_underlying L.t3
 have t9 := L.t9; have a9 := L.a9; have z9 := L.z9; have v9 := L.v9; have u9 := run_underlying L.t9
 go_enter L.f169, Body.n169_ntmps ρ
 go_wp2
 go_region_o
 all_goals (go_wp2; go_ret; exact ⟨rfl, Below.drew (Below.refl B w)⟩)
end Go.Proofs
namespace Go.Rk
open Go Go.RowKit
set_option linter.unusedVariables false
theorem prn_text {n0 b : Nat} {l : List UInt8} {k : Nat} {w : World} (h : Prn n0 b l k w) : Ret PP Wda #[.pointer (some ⟨b, 0, none⟩)] w fun v w' => v = Str l ∧ Go.RowKit.Below n0 w w' := by
 obtain ⟨p, a, q, hB, ha⟩ := h.bld
 have hblk := hB.B
 unfold Blk at hblk
 by_cases h0 : l = []
 ·have hq := ha h0
  subst h0; subst hq
  have hq0 : q = 0 := by
   rcases hB.row.2 with ⟨e, _⟩ | ⟨g, cap, cur, e, _⟩
   ·injection e
   ·injection e with e; cases e
  subst hq0
  refine (Go.Proofs.wide_string_nil lays169 _ n0 b _ _ w hblk).mono ?_
  rintro e w' ⟨rfl, hb⟩
  exact ⟨_, rfl, rfl, hb⟩
 ·obtain ⟨g, cap, cur, hv, hbg, hg, hnc, hcm, hcs, htake⟩ : ∃ g cap cur, Value.slice a l.length q = .slice (some ⟨g, 0, none⟩) l.length cap ∧ n0 ≤ g ∧ w.heap[g]? = some (.cells cur Yla (0, 0)) ∧ l.length ≤ cap ∧ cap ≤ maxLen ∧ cur.size = cap * 1 ∧ cur.toList.take (l.length * 1) = Lib.byteCells l := by
   rcases hB.row.2 with ⟨_, hz⟩ | ⟨g, cap, cur, hv, r⟩
   ·exact absurd hz (by simpa using h0)
   ·exact ⟨g, cap, cur, hv, r⟩
  have hown := hB.row
  injection hv with e1 _ e2
  subst e1; subst e2
  refine (Go.Proofs.wide_string lays169 (by kernel_rfl) _ n0 b _ _ g q cur l w hblk h0 hbg hg hnc hcm hcs (fun j y hy => ?_)).mono ?_
  ·exact hown.cells (g := g) rfl j (.int .u8 y.toNat) (by simp [Lib.byteCells, hy])
  ·rintro e w' ⟨rfl, hb⟩
   exact ⟨_, rfl, rfl, hb⟩
end Go.Rk
namespace Go.Rk
open Go Go.RowKit
set_option linter.unusedVariables false
def PrR (w : World) (k : Nat) : Prop := ∃ cs fr, w.heap[k]? = some (.cells cs Vo fr)
structure PQ (n0 : Nat) (w w' : World) : Prop where
 os : w'.os = w.os
 tape : w'.tape = w.tape
 output : w'.output = w.output
 size : w.heap.size ≤ w'.heap.size
 block : ∀ k, k < w.heap.size → (k < n0 ∨ (¬ ByR w k ∧ ¬ PrR w k)) → w'.heap[k]? = w.heap[k]?
theorem PQ.refl (n0 : Nat) (w : World) : PQ n0 w w := ⟨rfl, rfl, rfl, Nat.le_refl _, fun _ _ _ => rfl⟩
theorem PQ.trans {n0 : Nat} {u v w : World} (h : PQ n0 u v) (k : PQ n0 v w) : PQ n0 u w :=
 ⟨k.os.trans h.os, k.tape.trans h.tape, k.output.trans h.output, Nat.le_trans h.size k.size, fun i hi hb => by
  have e := h.block i hi hb
  refine (k.block i (Nat.lt_of_lt_of_le hi h.size) (hb.imp id fun hb => ⟨fun hr => hb.1 ?_, fun hr => hb.2 ?_⟩)).trans e
  ·obtain ⟨cs, fr, hr⟩ := hr; exact ⟨cs, fr, e.symm.trans hr⟩
  ·obtain ⟨cs, fr, hr⟩ := hr; exact ⟨cs, fr, e.symm.trans hr⟩⟩
theorem PQ.of_g {n0 : Nat} {w w' : World} (h : G w w') : PQ n0 w w' := ⟨h.os, h.tape, h.output, h.size, fun k hk _ => h.block hk⟩
theorem PQ.of_pf {n0 b : Nat} {w w' : World} (h : PF n0 b w w') (hB : PrR w b) : PQ n0 w w' := ⟨h.os, h.tape, h.output, h.size, fun k hk hb => h.block k hk (hb.imp id fun hb => ⟨fun e => hb.2 (e ▸ hB), hb.1⟩)⟩
theorem PQ.g {w w' : World} (h : PQ w.heap.size w w') : G w w' := ⟨h.os, h.tape, h.output, h.size, fun k hk => h.block k hk (.inl hk)⟩
theorem pq_only {n0 : Nat} {w0 w w' : World} {j : Nat} (h : PQ n0 w0 w) (hg : w.grownBy w' (some j)) (hj : w0.heap.size ≤ j) : PQ n0 w0 w' :=
 ⟨hg.os.trans h.os, hg.tape.trans h.tape, hg.output.trans h.output, Nat.le_trans h.size hg.size, fun k hk hb => (hg.block k (Nat.lt_of_lt_of_le hk h.size) (by intro e; injection e with e; omega)).trans (h.block k hk hb)⟩
theorem Blk.pq {n0 j : Nat} {w w' : World} {e : TypeId} {l : List Value} (h : Blk w j e l) (g : PQ n0 w w') (he : Nat.beq e Yla = false) (he2 : Nat.beq e Vo = false) : Blk w' j e l := by
 refine (g.block j h.lt (.inr ⟨fun ⟨cs, fr, hr⟩ => ?_, fun ⟨cs, fr, hr⟩ => ?_⟩)).trans h
 ·unfold Blk at h
  rw [h] at hr; injection hr with hr; injection hr with _ hr; subst hr; simp at he
 ·unfold Blk at h
  rw [h] at hr; injection hr with hr; injection hr with _ hr; subst hr; simp at he2
theorem Kd.pq {n0 : Nat} {w w' : World} {D : Nat → Prop} {ks : List Nd} {v : Value} (h : Kd w D ks v) (g : PQ n0 w w') (hD : ∀ k, D k → k < n0) : Kd w' D ks v :=
 Xva h (fun _ h _ => h) fun k hk hlt => g.block k hlt (.inl (hD k hk))
theorem Prn.prr {n0 b : Nat} {l : List UInt8} {k : Nat} {w : World} (h : Prn n0 b l k w) : PrR w b := by
 obtain ⟨p, a, q, h1, _⟩ := h.bld
 exact ⟨_, _, h1.B⟩
theorem prn_new {n0 b : Nat} {w : World} (h : Blk w b Vo [.pointer none, .slice none 0 0, .int .i64 0]) (hb : n0 ≤ b) (hT : LaidP n0 w) : Prn n0 b [] 0 w :=
 ⟨⟨none, none, 0, ⟨h, hb, Qq _ _ _ _, (by intro e; cases e), .inl rfl⟩, fun _ => rfl⟩, hT⟩
theorem stmt_q {t : Nd} (hx : pstB t = true) (hok : okNd t) {p : Option Addr} {c : Nat} {D : Nat → Prop} {n0 b : Nat} {l : List UInt8} {w : World} (hk : Kd w D t.kids (.slice p t.kids.length c)) (hD : ∀ x, D x → x < n0) (hP : Prn n0 b l 0 w)
  (hlen : l.length + (pst t 0).length < 100000000) (hc : count t ≤ 1000000) : Ret PP Xp #[.pointer (some ⟨b, 0, none⟩), ndV t (.slice p t.kids.length c)] w fun r w' => r = .tuple #[] ∧ Prn n0 b (l ++ pst t 0) 0 w' ∧ PQ n0 w w' :=
 (print_stmt hx hok p c D n0 b l 0 w hk hD hP hlen (by omega)).mono fun _ _ h => ⟨h.1, h.2.1, PQ.of_pf h.2.2 hP.prr⟩
theorem write_q {n0 b : Nat} {l : List UInt8} {w : World} (ts : List (List UInt8)) {b' : Nat} (hP : Prn n0 b l 0 w) (hR : Blk w b' ty_string (ts.map Str)) (hb : b' ≠ b) (hlen : l.length + ts.flatten.length < 100000000) (hn : ts.all (fun s => !s.isEmpty) = true) (hts : ts.length ≤ 1000) :
  Ret PP Uy #[.pointer (some ⟨b, 0, none⟩), .slice (some ⟨b', 0, none⟩) ts.length ts.length] w fun r w' => r = .tuple #[] ∧ Prn n0 b (l ++ ts.flatten) 0 w' ∧ PQ n0 w w' :=
 (Xd ts hP hR hb hlen hn hts).mono fun _ _ h => ⟨h.1, h.2.1, PQ.of_pf h.2.2 hP.prr⟩
def prX (l : List Nd) : List UInt8 := l.flatMap fun d => declX d ++ [10]
theorem prX_snoc (l : List Nd) {i : Nat} (h : i < l.length) : prX (l.take (i + 1)) = prX (l.take i) ++ (declX l[i] ++ [10]) := by
 rw [Jv h, prX, List.flatMap_append, prX]; simp
theorem prX_le (l : List Nd) (i : Nat) : (prX (l.take i)).length ≤ (prX l).length := by
 conv => rhs; rw [prX, ← List.take_append_drop i l, List.flatMap_append, List.length_append]
 exact Nat.le_add_right _ _
theorem Yvb {t : Nd} (h : validB t = true) : t.kids.all declB = true := by
 rw [← rvalid_eq] at h
 cases h1 : (!decide (t.kind = 1) || !plainB t) || decide ((50 : Int) < (depthN t : Nat))
 ·rw [h1] at h; exact h
 ·rw [h1] at h; cases h
abbrev TabP (w : World) : Prop := Lib.TabIs PP w "internal/strconv.uint64pow10" .u64 Lib.pow10Tab
theorem TabP.grow {w w' : World} (h : TabP w) (g : G w w') : TabP w' := Lib.tabBelow_of_tabIs h w' g
theorem Yqc (t : Nd) (v : Value) (D : Nat → Prop) (w : World) (hL : Laid w) (hb3 : 6 ≤ w.heap.size) (hT : TabP w) (hk : Kd w D t.kids v) (hcn : count t ≤ 1000000) (hok : okNd t) (hlen : (printX t).length < 100000000) :
  Ret PP Urb #[ndV t v] w fun r w' => r = Str (printX t) ∧ G w w' := by
 have hTB : LaidP w.heap.size w := Lib.tabBelow_of_tabIs hT
 have g := PQ.refl w.heap.size w
 have hls := Ui t.kids
 have hcq : count t = 1 + (t.kids.map count).sum := Ww t
 replace hk := hk.lt
 have hk0 := hk
 obtain ⟨p, c, rfl, _, _⟩ := id hk
 have hD : ∀ x, (D x ∧ x < w.heap.size) → x < w.heap.size := fun x h => h.2
 generalize hDq : (fun b => D b ∧ b < w.heap.size) = D0 at hk0 hk
 replace hD : ∀ x, D0 x → x < w.heap.size := fun x h => by rw [← hDq] at h; exact hD x h
 refine Ym (m := 23) Xib rfl rfl [(0, True, _)] (Za rfl (Zd _)) ?_
 refine Zg fun K1 hK1 => ?_
 refine Zf [1, 3] ?_
 refine Wd rfl (Zb rfl) rfl ?_
 intro b1 w1 N1
 have l1 := newge N1 g.size
 have g := g.trans (PQ.of_g (N1.g))
 have hk0 := hk0.grow (N1.g)
 try have hkid := hkid.grow (N1.g)
 try have hP := hP.grow (N1.g)
 have B1 := N1.blk
 refine Zc rfl (fun _ => Ze Zl) ?_
 refine Zj [(1, _, _), (2, _, _)] (Za rfl (Za rfl (Zd _))) ?_
 refine Zh (hK1 _ _ ?_)
 refine Zg fun K2 hK2 => ?_
 refine Zg fun K3 hK3 => ?_
 refine Zf [0, 1, 3] ?_
 refine Ya rfl (Yb Zr (Zb rfl) rfl (fun _ => B1.row)) ?_
 refine Yd rfl (Zu Uza Yl (Zk (Zb rfl) (Zn)) rfl) (svalid_ok t _ D0 _ (hL.grow g.g) (by have := g.size; omega) hk0 hcn) ?_
 rintro v7 w7 ⟨rfl, g7⟩
 refine ⟨fun _ => g7, ?_⟩
 have g := g.trans (PQ.of_g (g7))
 replace B1 := B1.grow (g7)
 have hk0 := hk0.grow (g7)
 try have hkid := hkid.grow (g7)
 try have hP := hP.grow (g7)
 refine Zc rfl (fun _ => Ub (Zb rfl)) ?_
 refine Zj [(1, _, _), (2, _, _), (8, _, _)] (Za rfl (Za rfl (Za rfl (Zd _)))) ?_
 refine Zh (hK3 _ _ ?_)
 refine Zz (Zb rfl) (fun h1 => ?_) (fun h1 => ?_)
 ·have e : printX t = [] := by unfold printX; simp only [Bool.not_eq_true'] at h1; rw [h1]; rfl
  refine Zg fun K4 hK4 => ?_
  refine Zf [3] ?_
  refine Zc rfl (fun _ => Ze Zl) ?_
  refine Zj [(1, _, _), (2, _, _)] (Za rfl (Za rfl (Zd _))) ?_
  refine Zh (hK4 _ _ ?_)
  refine Yf (Yj rfl rfl ?_)
  exact ⟨by rw [e], g.g⟩
 have h1 : validB t = true := by simpa using h1
 have e : printX t = prX t.kids := by unfold printX; rw [h1]; rfl
 rw [e] at hlen
 have hds := List.all_eq_true.1 (Yvb h1)
 refine Yq (hK2 _ _ ?_)
 refine Yi [(1, _, _), (2, _, _)] (Za rfl (Za rfl (Zd _))) ?_
 refine Zg fun K5 hK5 => ?_
 refine Zf [1] ?_
 refine Xr rfl Wcb rfl ?_
 intro b3 w3 N3
 have x3_1 := N3.ne B1
 have l3 := newge N3 g.size
 have g := g.trans (PQ.of_g (N3.g))
 replace B1 := B1.grow (N3.g)
 have hk0 := hk0.grow (N3.g)
 try have hkid := hkid.grow (N3.g)
 try have hP := hP.grow (N3.g)
 have B3 := N3.blk
 have hP := prn_new (n0 := w.heap.size) B3 (by have := N3.ge (PQ.g ‹PQ w.heap.size w _›); omega) (hTB.on g.g)
 have hlt3 := N3.blk.lt
 refine Zh (hK5 _ _ ?_)
 refine Zg fun K6 hK6 => ?_
 refine Zg fun K7 hK7 => ?_
 refine Zf [3, 0, 3, 3] ?_
 refine Zc rfl (fun _ => Zm Zv (Zb rfl)) ?_
 refine Ya rfl (Zt Zq (Zb rfl) (fun _ => B1.at_ rfl)) ?_
 refine Zc rfl (fun _ => Xx Zo (Zb rfl)) ?_
 refine Zc rfl (fun _ => Zi Zl) ?_
 refine Zj [(2, _, _), (3, _, _), (10, _, _), (11, _, _), (12, _, _)] (Za rfl (Za rfl (Za rfl (Za rfl (Za rfl (Zd _)))))) ?_
 refine Zh (hK7 _ _ ?_)
 refine Yp ?_
 refine Wv (fun (i : Nat) u1 => (i ≤ t.kids.length ∧ Prn w.heap.size b3 (prX (t.kids.take i)) 0 u1 ∧ Kd u1 D0 t.kids (.slice p t.kids.length c)) ∧ PQ w.heap.size w3 u1) [(2, True, _), (3, True, _), (10, True, _), (11, True, _)] (fun (i : Nat) => [(12, True, .int .i64 i)]) (fun (i : Nat) => t.kids.length - i) (0) ⟨⟨Nat.zero_le _, hP, hk0⟩, PQ.refl _ _⟩ (Za rfl (Za rfl (Za rfl (Za rfl (Za rfl (Zd _)))))) ?_
 rintro i u1 ⟨hI1, gl1⟩
 have g := g.trans gl1
 obtain ⟨hi, hP, hk0⟩ := hI1
 have hbn := hP.ge
 refine Zg fun K8 hK8 => ?_
 refine Zf [3] ?_
 refine Zc rfl (fun _ => Vh (Zb rfl) (Zb rfl)) ?_
 refine Zh (hK8 _ _ ?_)
 refine Yi [(2, _, _), (3, _, _), (10, _, _), (11, _, _), (12, _, _), (13, _, _)] (Za rfl (Za rfl (Za rfl (Za rfl (Za rfl (Za rfl (Zd _))))))) ?_
 refine Zg fun K9 hK9 => ?_
 refine Zz (Zb rfl) (fun h2 => ?_) (fun h2 => ?_)
 ·replace h2 : i < t.kids.length := by simp only [decide_eq_true_eq] at h2; omega
  obtain ⟨_, _, hpe, _, hks⟩ := id hk0
  obtain ⟨b9, o9, rfl, hD9, xs, hR, hX⟩ := hks (by omega)
  injection hpe with hpe _ hce
  subst hpe hce
  obtain ⟨p9, c9, hcell, hkid⟩ := Yna hR hX h2
  have hjs := prX_snoc t.kids h2
  have hjl := prX_le t.kids (i + 1)
  rw [hjs] at hjl
  have hcs := Vvb t.kids h2
  have hde := hds _ (List.getElem_mem h2)
  have hdp := dec_eq (decl_kind hde)
  have hpb : pstB t.kids[i] = true := by unfold pstB; rw [hde]; simp
  rw [hdp] at hjs hjl
  simp only [Xec, Xfc, Xgc, Xhc, Xic, Xjc, tabsL, Xkc] at hjl
  refine Yq (hK9 _ _ ?_)
  refine Yi [(2, _, _), (3, _, _), (10, _, _), (11, _, _), (12, _, _)] (Za rfl (Za rfl (Za rfl (Za rfl (Za rfl (Zd _)))))) ?_
  refine Zg fun K10 hK10 => ?_
  refine Yp ?_
  refine Zg fun K11 hK11 => ?_
  refine Zf [3, 0, 1, 2] ?_
  refine Zc rfl (fun _ => Uc Zo (Zb rfl) (Zb rfl) (fun _ => by omega)) ?_
  refine Ya rfl (Yb Zr (Zb rfl) rfl (fun _ => hcell)) ?_
  refine Xr rfl Yo rfl ?_
  intro b5 w5 N5
  have l5 := newge N5 g.size
  try have l5_gl1 := newge N5 gl1.size
  have g := g.trans (PQ.of_g (N5.g))
  try have gl1 := gl1.trans (PQ.of_g (N5.g))
  have hk0 := hk0.grow (N5.g)
  try have hkid := hkid.grow (N5.g)
  try have hP := hP.grow (N5.g)
  have B5 := N5.blk
  refine Yu rfl Xi (Zb rfl) (Zb rfl) rfl rfl B5 rfl rfl ?_
  intro wS1 hgS1 hzS1
  have C5 := B5
  clear B5
  intro B5
  have g := pq_only g hgS1 (by omega)
  first | replace gl1 := pq_only gl1 hgS1 (by omega) | clear gl1 | skip
  have hP := hP.keep hgS1 C5 rfl (by omega) (by omega)
  have hk0 := hk0.st hgS1 hD (by omega)
  have hkid := hkid.st hgS1 hD (by omega)
  refine Zj [(2, _, _), (3, _, _), (5, _, _), (10, _, _), (11, _, _), (12, _, _)] (Za rfl (Za rfl (Za rfl (Za rfl (Za rfl (Za rfl (Zd _))))))) ?_
  refine Zh (hK11 _ _ ?_)
  refine Zg fun K12 hK12 => ?_
  refine Zf [0, 2] ?_
  refine Ya rfl (Yb Zr (Zb rfl) rfl (fun _ => B5.row)) ?_
  refine Yd rfl (Zu Wp Yl (Zk (Zb rfl) (Zk (Zb rfl) (Zn))) rfl) (stmt_q hpb (Vc hok (List.getElem_mem h2)) hkid hD hP (by omega) (by omega)) ?_
  rintro v17 w17 ⟨rfl, hP, g17⟩
  refine ⟨fun h => absurd h (by decide), ?_⟩
  have g := g.trans g17
  try have gl1 := gl1.trans g17
  replace B5 := B5.pq g17 rfl rfl
  have hk0 := hk0.pq g17 hD
  try have hkid := hkid.pq g17 hD
  refine Zj [(2, _, _), (3, _, _), (10, _, _), (11, _, _), (12, _, _)] (Za rfl (Za rfl (Za rfl (Za rfl (Za rfl (Zd _)))))) ?_
  refine Zh (hK12 _ _ ?_)
  refine Zf [1, 2] ?_
  refine Zx [_] rfl Yn Xa (Zp Zl (Yc)) rfl rfl ?_
  intro b18 w18 N18
  have x18_5 := N18.ne B5
  have l18 := newge N18 g.size
  try have l18_gl1 := newge N18 gl1.size
  have g := g.trans (PQ.of_g (N18.g))
  try have gl1 := gl1.trans (PQ.of_g (N18.g))
  replace B5 := B5.grow (N18.g)
  have hk0 := hk0.grow (N18.g)
  try have hkid := hkid.grow (N18.g)
  try have hP := hP.grow (N18.g)
  have B18 := N18.blk
  refine Yd rfl (Zu Zw Yl (Zk (Zb rfl) (Zk (Zb rfl) (Zn))) rfl) (write_q [[10]] hP B18 (by omega) (by first | omega | (simp only [Xec, Xfc, Xgc, Xhc, Xic, Xjc, tabsL, Xkc]; omega)) (by rfl) (Nat.le_of_ble_eq_true rfl)) ?_
  rintro v19 w19 ⟨rfl, hP, g19⟩
  refine ⟨fun h => absurd h (by decide), ?_⟩
  have g := g.trans g19
  try have gl1 := gl1.trans g19
  replace B5 := B5.pq g19 rfl rfl
  replace B18 := B18.pq g19 rfl rfl
  have hk0 := hk0.pq g19 hD
  try have hkid := hkid.pq g19 hD
  refine Zj [(2, _, _), (3, _, _), (10, _, _), (11, _, _), (12, _, _)] (Za rfl (Za rfl (Za rfl (Za rfl (Za rfl (Zd _)))))) ?_
  refine Zh (hK10 _ _ ?_)
  refine Zf [3, 3] ?_
  refine Zc rfl (fun _ => Xq (Zb rfl) Zl (fun _ => by omega)) ?_
  refine Zc rfl (fun _ => Zi (Zb rfl)) ?_
  refine Zj [(12, _, _), (2, _, _), (3, _, _), (10, _, _), (11, _, _)] (Za rfl (Za rfl (Za rfl (Za rfl (Za rfl (Zd _)))))) ?_
  refine Zh (fun a ha => ?_)
  refine ⟨i + 1, ha, ⟨⟨h2, ?_, hk0⟩, gl1⟩, by omega⟩
  rw [hjs]; simpa only [List.append_assoc, List.flatten_cons, List.flatten_nil, List.append_nil] using hP
 replace h2 : i = t.kids.length := by simp only [decide_eq_false_iff_not] at h2; omega
 rw [h2, List.take_length] at hP
 refine Wa rfl (hK6 _ _ ?_)
 refine Yi [(2, _, _), (3, _, _)] (Za rfl (Za rfl (Zd _))) ?_
 refine Zg fun K13 hK13 => ?_
 refine Zf [3, 2, 3] ?_
 refine Zc rfl (fun _ => Zm Ux (Zb rfl)) ?_
 refine Yd rfl (Zu Wea Yl (Zk (Zb rfl) (Zn)) rfl) (prn_text hP) ?_
 rintro v22 w22 ⟨rfl, hb22⟩
 refine ⟨fun h => absurd h (by decide), ?_⟩
 refine Zc rfl (fun _ => Ze (Zb rfl)) ?_
 refine Zh (hK13 _ _ ?_)
 refine Yf (Yj rfl rfl ?_)
 exact ⟨by rw [e], Go.RowKit.Below.trans g.g hb22⟩
end Go.Rk
