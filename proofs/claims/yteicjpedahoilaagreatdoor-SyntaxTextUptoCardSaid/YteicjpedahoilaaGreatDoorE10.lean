/- Merged texts of one road: Pry, Prz, Pra. Conditions: each text's own. -/
import Derived.Test.YteicjpedahoilaaGreatDoorE09
import Derived.Test.YteicjpedahoilaaGreatDoorE04
import Derived.Shelf.Strconv.Itoa3
set_option linter.unusedSimpArgs false
set_option linter.unusedVariables false
namespace Go.Rk
open Go Go.RowKit
set_option linter.unusedVariables false
theorem itoa_ok {n0 : Nat} {w : World} (n : Int) (h0 : 0 ≤ n) (h1 : n ≤ 9223372036854775807) (hT : LaidP n0 w) : Ret PP Qmb #[.int .i64 n] w fun v w' => v = Str (digL n.toNat) ∧ G w w' := by
 refine (Go.Proofs.Any.strconv_Itoa laysM171 n (by omega) h1 w hT.here).mono ?_
 rintro e w' ⟨rfl, k, os, rfl⟩
 refine ⟨_, rfl, ?_, Lib.below_grow _ _ (Nat.le_refl _) _ _⟩
 obtain ⟨m, rfl⟩ := Int.eq_ofNat_of_zero_le h0
 rw [Lib.itoa_nonneg, Int.toNat_natCast, digL_dec (by omega)]
@[reducible] def Yda : Nat := 154
theorem Yea : goFn PP 154 = true := by kernel_rfl
theorem Zna : PP.funcs[154]? = some Go.Proofs.Tryz.f154 := Go.Proofs.Tryz.func154
theorem ifb_ok (c : Bool) (w : World) : Ret PP Yda #[.bool c] w fun v w' => v = Str (bif c then [116, 114, 117, 101] else [102, 97, 108, 115, 101]) ∧ G w w' := by
 have g := G.refl w
 refine Ym (m := 4) Zna rfl rfl [(0, True, _)] (Za rfl (Zd _)) ?_
 refine Zg fun K1 hK1 => ?_
 refine Zf [3] ?_
 refine Zc rfl (fun _ => Ze Zl) ?_
 refine Zh (hK1 _ _ ?_)
 refine Zg fun K2 hK2 => ?_
 refine Zg fun K3 hK3 => ?_
 refine Zf [3] ?_
 refine Zc rfl (fun _ => Zi (Zb rfl)) ?_
 refine Zj [(2, _, _), (3, _, _)] (Za rfl (Za rfl (Zd _))) ?_
 refine Zh (hK3 _ _ ?_)
 refine Zz (Zb rfl) (fun h1 => ?_) (fun h1 => ?_)
 ·subst h1
  refine Zg fun K4 hK4 => ?_
  refine Zf [3] ?_
  refine Zc rfl (fun _ => Ze Zl) ?_
  refine Zj [(2, _, _)] (Za rfl (Zd _)) ?_
  refine Zh (hK4 _ _ ?_)
  refine Yf (Yj rfl rfl ?_)
  exact ⟨rfl, g⟩
 subst h1
 refine Yq (hK2 _ _ ?_)
 refine Yi [(2, _, _)] (Za rfl (Zd _)) ?_
 refine Zg fun K5 hK5 => ?_
 refine Zf [3] ?_
 refine Zc rfl (fun _ => Ze Zl) ?_
 refine Zh (hK5 _ _ ?_)
 refine Yf (Yj rfl rfl ?_)
 exact ⟨rfl, g⟩
theorem fbool_ok (c : Bool) (w : World) : Ret PP Qga #[.bool c] w fun v w' => v = Str (bif c then [116, 114, 117, 101] else [102, 97, 108, 115, 101]) ∧ G w w' := by
 have g := G.refl w
 refine Ym (m := 5) Vsa rfl rfl [(0, True, _)] (Za rfl (Zd _)) ?_
 refine Zg fun K1 hK1 => ?_
 refine Zf [3] ?_
 refine Zc rfl (fun _ => Ze Zl) ?_
 refine Zh (hK1 _ _ ?_)
 refine Zg fun K2 hK2 => ?_
 refine Zf [3, 1, 3] ?_
 refine Zc rfl (fun _ => Zi (Zb rfl)) ?_
 refine Yd rfl (Zu Yea Yl (Zk (Zb rfl) (Zn)) rfl) (ifb_ok _ _) ?_
 rintro v4 w4 ⟨rfl, g4⟩
 refine ⟨fun _ => g4, ?_⟩
 have g := g.trans (g4)
 refine Zc rfl (fun _ => Ze (Zb rfl)) ?_
 refine Zj [(2, _, _)] (Za rfl (Zd _)) ?_
 refine Zh (hK2 _ _ ?_)
 refine Yf (Yj rfl rfl ?_)
 exact ⟨rfl, g⟩
theorem Prn.tabs {n0 b : Nat} {l : List UInt8} {k k' : Nat} {p a : Option Addr} {q : Nat} {w w' : World} (h : Prn n0 b l k w) (hB : Bld n0 b l k p a q w) (ha : l = [] → a = none) (hg : w.grownBy w' (some b)) (hn : Blk w' b Vo [.pointer p, .slice a l.length q, .int .i64 k']) : Prn n0 b l k' w' :=
 ⟨⟨p, a, q, { B := hn, hb := hB.hb, row := Vx hB.row hg (.inr hB.n1), n1 := hB.n1, hp := hB.hp }, ha⟩, h.tab.on (Vd (Go.RowKit.Below.refl _ _) hg (by have := hB.hb; have := hB.B.lt; omega) (fun k hk => by injection hk with hk; have := hB.hb; omega))⟩
theorem plX_snoc (l : List Nd) (f : Nd → Nat → List UInt8) (k : Nat) {i : Nat} (h : i < l.length) : plX (l.take (i + 1)) f k = plX (l.take i) f k ++ (([10] ++ tabsL k) ++ f l[i] k) := by
 rw [Jv h, plX, List.flatMap_append, plX]; simp
theorem plX_le (l : List Nd) (f : Nd → Nat → List UInt8) (k i : Nat) : (plX (l.take i) f k).length ≤ (plX l f k).length := by
 conv => rhs; rw [plX, ← List.take_append_drop i l, List.flatMap_append, List.length_append]
 exact Nat.le_add_right _ _
theorem Wmb {ks : List Nd} {c : Nat} {p : Option Addr} {D : Nat → Prop} {n0 b : Nat} {l : List UInt8} {k : Nat} {w : World} (hst : ∀ x ∈ ks, PrOk Xp pst x) (hk0 : Kd w D ks (.slice p ks.length c)) (hD : ∀ x, D x → x < n0) (hP : Prn n0 b l k w)
  (hlen : l.length + (plX ks pst (k + 1)).length < 100000000) (hc : k + 1 + (ks.map count).sum ≤ 1000000) :
  Ret PP Vna #[.pointer (some ⟨b, 0, none⟩), .slice p ks.length c] w (Wr n0 b l (plX ks pst (k + 1)) k w) := by
 have g := PF.refl n0 b w
 have hbn := hP.ge
 have hls := Ui ks
 refine Ym (m := 32) Wfa rfl rfl [(0, True, _), (1, True, _)] (Za rfl (Za rfl (Zd _))) ?_
 refine Zg fun K1 hK1 => ?_
 refine Zf [3, 3, 3, 0, 3, 3, 3, 2] ?_
 obtain ⟨p1, a1, q1, hB1, hB2⟩ := hP.bld
 refine Zc rfl (fun _ => Zi (Zb rfl)) ?_
 refine Zc rfl (fun _ => Xl (Zb rfl)) ?_
 refine Zc rfl (fun _ => Zm Ue (Zb rfl)) ?_
 refine Ya rfl (Zt Yy (Zb rfl) (fun _ => hB1.B.at_ rfl)) ?_
 refine Zc rfl (fun _ => Xq (Zb rfl) Zl (fun _ => by omega)) ?_
 refine Zc rfl (fun _ => Xl (Zb rfl)) ?_
 refine Zc rfl (fun _ => Zm Ue (Zb rfl)) ?_
 refine Jg rfl Yxa (Zb rfl) (Zb rfl) rfl hB1.B rfl rfl ?_
 intro wS1 hgS1 hzS1 B62
 have g := pf_b g hgS1 hbn.1
 have hP := hP.tabs (k' := k + 1) hB1 hB2 hgS1 B62
 have hk0 := hk0.st hgS1 hD hbn.1
 refine Zj [(0, _, _), (1, _, _)] (Za rfl (Za rfl (Zd _))) ?_
 refine Zh (hK1 _ _ ?_)
 refine Zg fun K2 hK2 => ?_
 refine Zg fun K3 hK3 => ?_
 refine Zf [3, 3, 3] ?_
 refine Zc rfl (fun _ => Zi (Zb rfl)) ?_
 refine Zc rfl (fun _ => Xx Zo (Zb rfl)) ?_
 refine Zc rfl (fun _ => Zi Zl) ?_
 refine Zj [(0, _, _), (13, _, _), (14, _, _), (15, _, _)] (Za rfl (Za rfl (Za rfl (Za rfl (Zd _))))) ?_
 refine Zh (hK3 _ _ ?_)
 refine Yp ?_
 refine Wv (fun (i : Nat) u1 => (i ≤ ks.length ∧ Prn n0 b (l ++ plX (ks.take i) pst (k + 1)) (k + 1) u1 ∧ Kd u1 D ks (.slice p ks.length c)) ∧ PF n0 b wS1 u1) [(0, True, _), (13, True, _), (14, True, _)] (fun (i : Nat) => [(15, True, .int .i64 i)]) (fun (i : Nat) => ks.length - i) (0) ⟨⟨Nat.zero_le _, by simpa [plX] using hP, hk0⟩, PF.refl _ _ _⟩ (Za rfl (Za rfl (Za rfl (Za rfl (Zd _))))) ?_
 rintro i u1 ⟨hI1, gl1⟩
 have g := g.trans gl1
 obtain ⟨hi, hP, hk0⟩ := hI1
 refine Zg fun K4 hK4 => ?_
 refine Zf [3] ?_
 refine Zc rfl (fun _ => Vh (Zb rfl) (Zb rfl)) ?_
 refine Zh (hK4 _ _ ?_)
 refine Yi [(0, _, _), (13, _, _), (14, _, _), (15, _, _), (16, _, _)] (Za rfl (Za rfl (Za rfl (Za rfl (Za rfl (Zd _)))))) ?_
 refine Zg fun K5 hK5 => ?_
 refine Zz (Zb rfl) (fun h1 => ?_) (fun h1 => ?_)
 ·replace h1 : i < ks.length := by simp only [decide_eq_true_eq] at h1; omega
  obtain ⟨_, _, hpe, _, hks⟩ := id hk0
  obtain ⟨b9, o9, rfl, hD9, xs, hR, hX⟩ := hks (by omega)
  injection hpe with hpe _ hce
  subst hpe hce
  obtain ⟨p9, c9, hcell, hkid⟩ := Yna hR hX h1
  have hjs := plX_snoc ks pst (k + 1) h1
  have hjl := plX_le ks pst (k + 1) (i + 1)
  rw [hjs] at hjl
  have hcs := Vvb ks h1
  simp only [List.length_append, List.length_cons, List.length_nil, tabsL, List.length_replicate] at hjl
  refine Yq (hK5 _ _ ?_)
  refine Yi [(0, _, _), (13, _, _), (14, _, _), (15, _, _)] (Za rfl (Za rfl (Za rfl (Za rfl (Zd _))))) ?_
  refine Zg fun K6 hK6 => ?_
  refine Yp ?_
  refine Zg fun K7 hK7 => ?_
  refine Zf [3, 0, 1, 2] ?_
  refine Zc rfl (fun _ => Uc Zo (Zb rfl) (Zb rfl) (fun _ => by omega)) ?_
  refine Ya rfl (Yb Zr (Zb rfl) rfl (fun _ => hcell)) ?_
  refine Xr rfl Yo rfl ?_
  intro b5 w5 N5
  have l5 := newge N5 g.size
  try have l5_gl1 := newge N5 gl1.size
  have g := g.trans (PF.of_g (N5.g))
  try have gl1 := gl1.trans (PF.of_g (N5.g))
  have hP := hP.grow (N5.g)
  have hk0 := hk0.grow (N5.g)
  try have hkid := hkid.grow (N5.g)
  have B5 := N5.blk
  refine Yu rfl Xi (Zb rfl) (Zb rfl) rfl rfl B5 rfl rfl ?_
  intro wS2 hgS2 hzS2
  have C5 := B5
  clear B5
  intro B5
  have g := Wta g hgS2 (by omega)
  first | replace gl1 := Wta gl1 hgS2 (by omega) | clear gl1 | skip
  have hP := hP.keep hgS2 C5 rfl (by omega) (by omega)
  have hk0 := hk0.st hgS2 hD (by omega)
  have hkid := hkid.st hgS2 hD (by omega)
  refine Zj [(0, _, _), (5, _, _), (13, _, _), (14, _, _), (15, _, _)] (Za rfl (Za rfl (Za rfl (Za rfl (Za rfl (Zd _)))))) ?_
  refine Zh (hK7 _ _ ?_)
  refine Zg fun K8 hK8 => ?_
  refine Zf [3, 2] ?_
  refine Zc rfl (fun _ => Zi (Zb rfl)) ?_
  refine Yd rfl (Zu Vn Yl (Zk (Zb rfl) (Zn)) rfl) (Wlb hP (by simp only [List.length_append]; omega)) ?_
  rintro v20 w20 ⟨rfl, hP, g20⟩
  refine ⟨fun h => absurd h (by decide), ?_⟩
  have g := g.trans g20
  try have gl1 := gl1.trans g20
  replace B5 := B5.pf g20 rfl (by omega)
  have hk0 := hk0.pf g20 hD
  try have hkid := hkid.pf g20 hD
  refine Zj [(0, _, _), (5, _, _), (13, _, _), (14, _, _), (15, _, _)] (Za rfl (Za rfl (Za rfl (Za rfl (Za rfl (Zd _)))))) ?_
  refine Zh (hK8 _ _ ?_)
  refine Zf [3, 0, 2] ?_
  refine Zc rfl (fun _ => Zi (Zb rfl)) ?_
  refine Ya rfl (Yb Zr (Zb rfl) rfl (fun _ => B5.row)) ?_
  refine Yd rfl (Zu Wp Yl (Zk (Zb rfl) (Zk (Zb rfl) (Zn))) rfl) (hst ks[i] (List.getElem_mem h1) _ _ D n0 b _ (k + 1) _ hkid hD hP (by simp only [List.length_append, List.length_cons, List.length_nil, tabsL, List.length_replicate]; omega) (by omega)) ?_
  rintro v23 w23 ⟨rfl, hP, g23⟩
  refine ⟨fun h => absurd h (by decide), ?_⟩
  have g := g.trans g23
  try have gl1 := gl1.trans g23
  replace B5 := B5.pf g23 rfl (by omega)
  have hk0 := hk0.pf g23 hD
  try have hkid := hkid.pf g23 hD
  refine Zj [(0, _, _), (13, _, _), (14, _, _), (15, _, _)] (Za rfl (Za rfl (Za rfl (Za rfl (Zd _))))) ?_
  refine Zh (hK6 _ _ ?_)
  refine Zf [3, 3] ?_
  refine Zc rfl (fun _ => Xq (Zb rfl) Zl (fun _ => by omega)) ?_
  refine Zc rfl (fun _ => Zi (Zb rfl)) ?_
  refine Zj [(15, _, _), (0, _, _), (13, _, _), (14, _, _)] (Za rfl (Za rfl (Za rfl (Za rfl (Zd _))))) ?_
  refine Zh (fun a ha => ?_)
  refine ⟨i + 1, ha, ⟨⟨h1, ?_, hk0⟩, gl1⟩, by omega⟩
  rw [hjs]; simpa only [List.append_assoc] using hP
 replace h1 : i = ks.length := by simp only [decide_eq_false_iff_not] at h1; omega
 refine Wa rfl (hK2 _ _ ?_)
 refine Yi [(0, _, _)] (Za rfl (Zd _)) ?_
 refine Zf [3, 3, 3, 0, 3, 3, 3, 2] ?_
 obtain ⟨p1, a1, q1, hB1, hB2⟩ := hP.bld
 refine Zc rfl (fun _ => Zi (Zb rfl)) ?_
 refine Zc rfl (fun _ => Xl (Zb rfl)) ?_
 refine Zc rfl (fun _ => Zm Ue (Zb rfl)) ?_
 refine Ya rfl (Zt Yy (Zb rfl) (fun _ => hB1.B.at_ rfl)) ?_
 refine Zc rfl (fun _ => rd_sub (Zb rfl) Zl (fun _ => by omega)) ?_
 refine Zc rfl (fun _ => Xl (Zb rfl)) ?_
 refine Zc rfl (fun _ => Zm Ue (Zb rfl)) ?_
 refine Jg rfl Yxa (Zb rfl) (Zb rfl) rfl hB1.B rfl rfl ?_
 intro wS2 hgS2 hzS2 B62
 have g := pf_b g hgS2 hbn.1
 have hP := hP.tabs (k' := k) hB1 hB2 hgS2 (by simpa using B62)
 refine Zh (Xs rfl ?_)
 refine ⟨rfl, ?_, g⟩
 rw [h1, List.take_length] at hP; exact hP
theorem block_ok {t : Nd} (hst : ∀ x ∈ t.kids, PrOk Xp pst x) (hs : ∀ x ∈ t.kids, pst x = stT x) : PrOk Qa blkT t := by
 intro p c D n0 b l k w hk0 hD hP hlen hc
 have g := PF.refl n0 b w
 have hbn := hP.ge
 have hcn : count t = 1 + (t.kids.map count).sum := Ww t
 have hpl := Zhb (f := pst) (g := stT) (l := t.kids) hs (k + 1)
 rw [blkT_eq, ← hpl] at hlen
 simp only [List.length_append, List.length_cons, List.length_nil, tabsL, List.length_replicate] at hlen
 refine Ym (m := 16) Wga rfl rfl [(0, True, _), (1, True, _)] (Za rfl (Za rfl (Zd _))) ?_
 refine Zg fun K1 hK1 => ?_
 refine Zf [1] ?_
 refine Wd rfl (Zb rfl) rfl ?_
 intro b3 w3 N3
 have l3 := newge N3 g.size
 have g := g.trans (PF.of_g (N3.g))
 have hP := hP.grow (N3.g)
 have hk0 := hk0.grow (N3.g)
 have B3 := N3.blk
 refine Zj [(0, _, _), (3, _, _)] (Za rfl (Za rfl (Zd _))) ?_
 refine Zh (hK1 _ _ ?_)
 refine Zg fun K2 hK2 => ?_
 refine Zf [3, 1, 2] ?_
 refine Zc rfl (fun _ => Zi (Zb rfl)) ?_
 refine Zx [_] rfl Yn Xa (Zp Zl (Yc)) rfl rfl ?_
 intro b5 w5 N5
 have x5_3 := N5.ne B3
 have l5 := newge N5 g.size
 have g := g.trans (PF.of_g (N5.g))
 replace B3 := B3.grow (N5.g)
 have hP := hP.grow (N5.g)
 have hk0 := hk0.grow (N5.g)
 have B5 := N5.blk
 refine Yd rfl (Zu Zw Yl (Zk (Zb rfl) (Zk (Zb rfl) (Zn))) rfl) (Xd [[123]] hP B5 (by omega) (by first | omega | (simp only [Xec, Xfc, Xgc, Xhc, Xic, Xjc, tabsL, Xkc]; omega) | (simp at hlen ⊢ <;> omega)) (by first | rfl | (simp [ht]; done) | (simpa using ht)) (Nat.le_of_ble_eq_true rfl)) ?_
 rintro v6 w6 ⟨rfl, hP, g6⟩
 refine ⟨fun h => absurd h (by decide), ?_⟩
 have g := g.trans g6
 replace B3 := B3.pf g6 rfl (by omega)
 replace B5 := B5.pf g6 rfl (by omega)
 have hk0 := hk0.pf g6 hD
 refine Zj [(0, _, _), (3, _, _)] (Za rfl (Za rfl (Zd _))) ?_
 refine Zh (hK2 _ _ ?_)
 refine Zg fun K3 hK3 => ?_
 refine Zf [3, 3, 0, 2] ?_
 refine Zc rfl (fun _ => Zi (Zb rfl)) ?_
 refine Zc rfl (fun _ => Zm Zv (Zb rfl)) ?_
 refine Ya rfl (Zt Zq (Zb rfl) (fun _ => B3.at_ rfl)) ?_
 refine Yd rfl (Zu Ua Yl (Zk (Zb rfl) (Zk (Zb rfl) (Zn))) rfl) (Wmb hst hk0 hD hP (by simp only [List.length_append, List.length_cons, List.length_nil, List.flatten_cons, List.flatten_nil, List.append_nil]; omega) (by omega)) ?_
 rintro v10 w10 ⟨rfl, hP, g10⟩
 refine ⟨fun h => absurd h (by decide), ?_⟩
 have g := g.trans g10
 replace B3 := B3.pf g10 rfl (by omega)
 replace B5 := B5.pf g10 rfl (by omega)
 have hk0 := hk0.pf g10 hD
 refine Zj [(0, _, _)] (Za rfl (Zd _)) ?_
 refine Zh (hK3 _ _ ?_)
 refine Zg fun K4 hK4 => ?_
 refine Zf [3, 2] ?_
 refine Zc rfl (fun _ => Zi (Zb rfl)) ?_
 refine Yd rfl (Zu Vn Yl (Zk (Zb rfl) (Zn)) rfl) (Wlb hP (by simp only [List.length_append, List.length_cons, List.length_nil, List.flatten_cons, List.flatten_nil, List.append_nil]; omega)) ?_
 rintro v12 w12 ⟨rfl, hP, g12⟩
 refine ⟨fun h => absurd h (by decide), ?_⟩
 have g := g.trans g12
 replace B3 := B3.pf g12 rfl (by omega)
 replace B5 := B5.pf g12 rfl (by omega)
 have hk0 := hk0.pf g12 hD
 refine Zj [(0, _, _)] (Za rfl (Zd _)) ?_
 refine Zh (hK4 _ _ ?_)
 refine Zf [3, 1, 2] ?_
 refine Zc rfl (fun _ => Zi (Zb rfl)) ?_
 refine Zx [_] rfl Yn Xa (Zp Zl (Yc)) rfl rfl ?_
 intro b14 w14 N14
 have x14_3 := N14.ne B3
 have x14_5 := N14.ne B5
 have l14 := newge N14 g.size
 have g := g.trans (PF.of_g (N14.g))
 replace B3 := B3.grow (N14.g)
 replace B5 := B5.grow (N14.g)
 have hP := hP.grow (N14.g)
 have hk0 := hk0.grow (N14.g)
 have B14 := N14.blk
 refine Yd rfl (Zu Zw Yl (Zk (Zb rfl) (Zk (Zb rfl) (Zn))) rfl) (Xd [[125]] hP B14 (by omega) (by first | omega | (simp only [Xec, Xfc, Xgc, Xhc, Xic, Xjc, tabsL, Xkc]; omega) | (simp at hlen ⊢ <;> omega)) (by first | rfl | (simp [ht]; done) | (simpa using ht)) (Nat.le_of_ble_eq_true rfl)) ?_
 rintro v15 w15 ⟨rfl, hP, g15⟩
 refine ⟨fun h => absurd h (by decide), ?_⟩
 have g := g.trans g15
 replace B3 := B3.pf g15 rfl (by omega)
 replace B5 := B5.pf g15 rfl (by omega)
 replace B14 := B14.pf g15 rfl (by omega)
 have hk0 := hk0.pf g15 hD
 refine Zj [] (Zd _) ?_
 refine Zh (Xs rfl ?_)
 refine ⟨rfl, ?_, g⟩
 rw [blkT_eq, ← hpl]; simpa only [List.append_assoc, List.flatten_cons, List.flatten_nil, List.append_nil] using hP
theorem list_ok' {ks : List Nd} {m c : Nat} {p : Option Addr} {D : Nat → Prop} {n0 b : Nat} {l : List UInt8} {k : Nat} {w : World} (hm : m = ks.length) (hex : ∀ x ∈ ks, PrOk Xv exT x) (hk0 : Kd w D ks (.slice p m c)) (hD : ∀ x, D x → x < n0) (hP : Prn n0 b l k w)
  (hlen : l.length + (joinX (ks.map fun y => exT y k)).length < 100000000) (hc : k + (ks.map count).sum ≤ 1000000) :
  Ret PP Zfa #[.pointer (some ⟨b, 0, none⟩), .slice p m c] w (Wr n0 b l (joinX (ks.map fun y => exT y k)) k w) := by
 subst hm; exact Uxa hex hk0 hD hP hlen hc
theorem kd_drop {w : World} {D : Nat → Prop} {ks : List Nd} {p : Option Addr} {c : Nat} (hk : Kd w D ks (.slice p ks.length c)) (h : 1 ≤ ks.length) : ∃ b o, p = some ⟨b, o, none⟩ ∧ Kd w D (ks.drop 1) (.slice (some ⟨b, if c = (1 : Int).toNat then o else o + (1 : Int).toNat * 9, none⟩) (ks.length - (1 : Int).toNat) (c - (1 : Int).toNat)) := by
 obtain ⟨p', c', hpe, hc, hks⟩ := hk
 injection hpe with hpe _ hce
 subst hpe hce
 obtain ⟨b, o, rfl, hb, xs, hR, hX⟩ := hks h
 have h1 : (1 : Int).toNat = 1 := rfl
 refine ⟨b, o, rfl, some ⟨b, if c = (1 : Int).toNat then o else o + (1 : Int).toNat * 9, none⟩, c - (1 : Int).toNat, by rw [List.length_drop]; rfl, by rw [List.length_drop]; omega, fun h0 => ⟨b, _, rfl, hb, ?_⟩⟩
 rw [List.length_drop] at h0
 rw [if_neg (by omega)]
 match ks, hX with
 | t :: ts, hX =>
  obtain ⟨v, r, rfl, _, hr⟩ := hX
  refine ⟨r, fun j u hj => ?_, hr⟩
  have := hR (j + 9) u (by rw [List.getElem?_append_right (by rw [Xua]; omega), Xua, Nat.add_sub_cancel]; exact hj)
  rw [show o + (1 : Int).toNat * 9 + j = o + (j + 9) by omega]; exact this
theorem okNd_kidAt' {t : Nd} (hk : okNd t) {i : Nat} (h : i < t.kids.length) : okNd (kidAt t i) := by
 rw [Xu h]; exact Vc hk (List.getElem_mem h)
theorem ok_num {t : Nd} (h : okNd t) : t.num ≤ 9223372036854775807 := by rw [Zdb] at h; exact h.2.1.2
theorem PBel.e {t : Nd} (ih : PBel t) {i : Nat} (h : i < t.kids.length) (hx : exprB (kidAt t i) = true) (hk : okNd t) : PrOk Xv exT (kidAt t i) := (ih.kid h).ex hx (okNd_kidAt' hk h)
theorem PBel.s {t : Nd} (ih : PBel t) {i : Nat} (h : i < t.kids.length) (hx : pstB (kidAt t i) = true) (hk : okNd t) : PrOk Xp pst (kidAt t i) := (ih.kid h).st hx (okNd_kidAt' hk h)
theorem PBel.es {t : Nd} (ih : PBel t) (hx : t.kids.all exprB = true) (hk : okNd t) : ∀ x ∈ t.kids, PrOk Xv exT x := fun x hm => (ih x (Xz hm)).ex (List.all_eq_true.1 hx x hm) (Vc hk hm)
theorem Zib {t : Nd} (h : stmtB t = true) : pstB t = true := by unfold pstB; rw [h]; rfl
theorem PBel.b {t : Nd} (ih : PBel t) {i : Nat} (h : i < t.kids.length) (hx : blockB (kidAt t i) = true) (hk : okNd t) : PrOk Qa blkT (kidAt t i) := by
 have hs := List.all_eq_true.1 (sh10 hx)
 exact block_ok (fun x hm => (ih x (Nat.lt_trans (Xz hm) (Xf h))).st (Zib (hs x hm)) (Vc (okNd_kidAt' hk h) hm)) (fun x hm => Zma (hs x hm))
theorem PBel.b0 {t : Nd} (ih : PBel t) (hx : blockB t = true) (hk : okNd t) : PrOk Qa blkT t := by
 have hs := List.all_eq_true.1 (sh10 hx)
 exact block_ok (fun x hm => (ih x (Xz hm)).st (Zib (hs x hm)) (Vc hk hm)) (fun x hm => Zma (hs x hm))
theorem Wnb {t : Nd} {f : Nd → Bool} (hl : t.kids.length = 1) (h : f (kidAt t 0) = true) : t.kids.all f = true := by
 obtain ⟨a, ha⟩ := List.length_eq_one_iff.1 hl
 rw [show kidAt t 0 = a by simp [kidAt, ha]] at h
 rw [ha]; simp [h]
theorem digL_ne (n : Nat) : digL n ≠ [] := by
 unfold digL digF
 cases Nat.blt n 10 <;> simp
theorem exp_kinds {t : Nd} (h : exprB t = true) : t.kind = 24 ∨ t.kind = 25 ∨ t.kind = 26 ∨ t.kind = 27 ∨ t.kind = 28 ∨ t.kind = 29 ∨ t.kind = 30 ∨ t.kind = 31 ∨ t.kind = 32 ∨ t.kind = 33 ∨ t.kind = 34 ∨ t.kind = 35 ∨ t.kind = 36 ∨ t.kind = 37 ∨ t.kind = 38 := by
 have h1 := (Bool.and_eq_true_iff.1 h).1
 unfold expK at h1
 simp only [anyK, Bool.or_eq_true, decide_eq_true_eq] at h1
 omega
theorem Yub {t : Nd} (hl : 0 < t.kids.length) (hE0 : PrOk Xv exT (kidAt t 0)) : PrOk Wia (fun t k => parX (memK [32, 31, 33] (kidAt t 0).kind) (exT (kidAt t 0) k)) t := by
 intro p c D n0 b l k w hk0 hD hP hlen hc
 have g := PF.refl n0 b w
 have hbn := hP.ge
 have hc0 := Xf hl
 refine Ym (m := 11) Xea rfl rfl [(0, True, _), (1, True, _)] (Za rfl (Za rfl (Zd _))) ?_
 refine Zg fun K1 hK1 => ?_
 refine Zf [1] ?_
 refine Wd rfl (Zb rfl) rfl ?_
 intro b3 w3 N3
 have l3 := newge N3 g.size
 have g := g.trans (PF.of_g (N3.g))
 have hP := hP.grow (N3.g)
 have hk0 := hk0.grow (N3.g)
 try have hkid := hkid.grow (N3.g)
 have B3 := N3.blk
 refine Zj [(0, _, _), (3, _, _)] (Za rfl (Za rfl (Zd _))) ?_
 refine Zh (hK1 _ _ ?_)
 refine Zf [3, 3, 0, 3, 0, 1, 2] ?_
 refine Zc rfl (fun _ => Zi (Zb rfl)) ?_
 refine Zc rfl (fun _ => Zm Zv (Zb rfl)) ?_
 refine Ya rfl (Zt Zq (Zb rfl) (fun _ => B3.at_ rfl)) ?_
 obtain ⟨hpe, p_7, c_7, hcell, hkid⟩ := Xw hk0 (i := 0) (by omega)
 refine Zc rfl (fun _ => Xc Zo (Zb rfl) Zl (fun _ => by omega) (fun _ => hpe)) ?_
 refine Ya rfl (Yb Zr (Zb rfl) rfl (fun _ => hcell)) ?_
 refine Zx [_, _, _] rfl Wt Qc (Zp Zl (Zp Zl (Zp Zl (Yc)))) rfl rfl ?_
 intro b9 w9 N9
 have x9_3 := N9.ne B3
 have l9 := newge N9 g.size
 have g := g.trans (PF.of_g (N9.g))
 replace B3 := B3.grow (N9.g)
 have hP := hP.grow (N9.g)
 have hk0 := hk0.grow (N9.g)
 try have hkid := hkid.grow (N9.g)
 have B9 := N9.blk
 refine Yd rfl (Zu Vi Yl (Zk (Zb rfl) (Zk (Zb rfl) (Zk (Zb rfl) (Zn)))) rfl) (Jua hE0 [32, 31, 33] _ _ hkid hD hP B9 (by decide) (by first | omega | (simp only [Xec, Xfc, Xgc, Xhc, Xic, Xjc, tabsL, Xkc]; omega)) (by omega)) ?_
 rintro v10 w10 ⟨rfl, hP, g10⟩
 refine ⟨fun h => absurd h (by decide), ?_⟩
 have g := g.trans g10
 replace B3 := B3.pf g10 rfl (by omega)
 replace B9 := B9.pf g10 rfl (by omega)
 have hk0 := hk0.pf g10 hD
 refine Zj [] (Zd _) ?_
 refine Zh (Xs rfl ?_)
 exact ⟨rfl, hP, g⟩
theorem pair_ok {t : Nd} (s : List UInt8) (hs : s ≠ []) (hl : t.kids.length = 2) (hE0 : PrOk Xv exT (kidAt t 0)) (hE1 : PrOk Xv exT (kidAt t 1)) {p : Option Addr} {c : Nat} {D : Nat → Prop} {n0 b : Nat} {l : List UInt8} {k : Nat} {w : World} (hk0 : Kd w D t.kids (.slice p t.kids.length c)) (hD : ∀ x, D x → x < n0) (hP : Prn n0 b l k w)
  (hlen : l.length + ((exT (kidAt t 0) k ++ s) ++ exT (kidAt t 1) k).length < 100000000) (hc : k + count t ≤ 1000000) :
  Ret PP Uoa #[.pointer (some ⟨b, 0, none⟩), ndV t (.slice p t.kids.length c), Str s] w (Wr n0 b l ((exT (kidAt t 0) k ++ s) ++ exT (kidAt t 1) k) k w) := by
 have g := PF.refl n0 b w
 have hbn := hP.ge
 have hc0 := Xf (t := t) (i := 0) (by omega)
 have hc1 := Xf (t := t) (i := 1) (by omega)
 simp only [List.length_append] at hlen
 refine Ym (m := 22) Vea rfl rfl [(0, True, _), (1, True, _), (2, True, _)] (Za rfl (Za rfl (Za rfl (Zd _)))) ?_
 refine Zg fun K1 hK1 => ?_
 refine Zf [1] ?_
 refine Wd rfl (Zb rfl) rfl ?_
 intro b4 w4 N4
 have l4 := newge N4 g.size
 have g := g.trans (PF.of_g (N4.g))
 have hP := hP.grow (N4.g)
 have hk0 := hk0.grow (N4.g)
 try have hkid := hkid.grow (N4.g)
 have B4 := N4.blk
 refine Zj [(0, _, _), (2, _, _), (4, _, _)] (Za rfl (Za rfl (Za rfl (Zd _)))) ?_
 refine Zh (hK1 _ _ ?_)
 refine Zg fun K2 hK2 => ?_
 refine Zf [3, 3, 0, 3, 0, 2] ?_
 refine Zc rfl (fun _ => Zi (Zb rfl)) ?_
 refine Zc rfl (fun _ => Zm Zv (Zb rfl)) ?_
 refine Ya rfl (Zt Zq (Zb rfl) (fun _ => B4.at_ rfl)) ?_
 obtain ⟨hpe, p_9, c_9, hcell, hkid⟩ := Xw hk0 (i := 0) (by omega)
 refine Zc rfl (fun _ => Xc Zo (Zb rfl) Zl (fun _ => by omega) (fun _ => hpe)) ?_
 refine Ya rfl (Yb Zr (Zb rfl) rfl (fun _ => hcell)) ?_
 refine Yd rfl (Zu Xh Yl (Zk (Zb rfl) (Zk (Zb rfl) (Zn))) rfl) (hE0 _ _ D n0 b _ k _ hkid hD hP (by first | omega | (simp only [Xec, Xfc, Xgc, Xhc, Xic, Xjc, tabsL, Xkc]; omega)) (by omega)) ?_
 rintro v11 w11 ⟨rfl, hP, g11⟩
 refine ⟨fun h => absurd h (by decide), ?_⟩
 have g := g.trans g11
 replace B4 := B4.pf g11 rfl (by omega)
 have hk0 := hk0.pf g11 hD
 refine Zj [(0, _, _), (2, _, _), (4, _, _)] (Za rfl (Za rfl (Za rfl (Zd _)))) ?_
 refine Zh (hK2 _ _ ?_)
 refine Zg fun K3 hK3 => ?_
 refine Zf [3, 3, 1, 2] ?_
 refine Zc rfl (fun _ => Zi (Zb rfl)) ?_
 refine Zc rfl (fun _ => Zi (Zb rfl)) ?_
 refine Zx [_] rfl Yn Xa (Zp (Zb rfl) (Yc)) rfl rfl ?_
 intro b14 w14 N14
 have x14_4 := N14.ne B4
 have l14 := newge N14 g.size
 have g := g.trans (PF.of_g (N14.g))
 replace B4 := B4.grow (N14.g)
 have hP := hP.grow (N14.g)
 have hk0 := hk0.grow (N14.g)
 try have hkid := hkid.grow (N14.g)
 have B14 := N14.blk
 refine Yd rfl (Zu Zw Yl (Zk (Zb rfl) (Zk (Zb rfl) (Zn))) rfl) (Xd [s] hP B14 (by omega) (by first | omega | (simp only [Xec, Xfc, Xgc, Xhc, Xic, Xjc, tabsL, Xkc]; omega)) (by simp [hs]) (Nat.le_of_ble_eq_true rfl)) ?_
 rintro v15 w15 ⟨rfl, hP, g15⟩
 refine ⟨fun h => absurd h (by decide), ?_⟩
 have g := g.trans g15
 replace B4 := B4.pf g15 rfl (by omega)
 replace B14 := B14.pf g15 rfl (by omega)
 have hk0 := hk0.pf g15 hD
 refine Zj [(0, _, _), (4, _, _)] (Za rfl (Za rfl (Zd _))) ?_
 refine Zh (hK3 _ _ ?_)
 refine Zf [3, 3, 0, 3, 0, 2] ?_
 refine Zc rfl (fun _ => Zi (Zb rfl)) ?_
 refine Zc rfl (fun _ => Zm Zv (Zb rfl)) ?_
 refine Ya rfl (Zt Zq (Zb rfl) (fun _ => B4.at_ rfl)) ?_
 obtain ⟨hpe, p_19, c_19, hcell, hkid⟩ := Xw hk0 (i := 1) (by omega)
 refine Zc rfl (fun _ => Xc Zo (Zb rfl) Zl (fun _ => by omega) (fun _ => hpe)) ?_
 refine Ya rfl (Yb Zr (Zb rfl) rfl (fun _ => hcell)) ?_
 refine Yd rfl (Zu Xh Yl (Zk (Zb rfl) (Zk (Zb rfl) (Zn))) rfl) (hE1 _ _ D n0 b _ k _ hkid hD hP (by first | omega | (simp only [Xec, Xfc, Xgc, Xhc, Xic, Xjc, tabsL, Xkc]; omega)) (by omega)) ?_
 rintro v21 w21 ⟨rfl, hP, g21⟩
 refine ⟨fun h => absurd h (by decide), ?_⟩
 have g := g.trans g21
 replace B4 := B4.pf g21 rfl (by omega)
 replace B14 := B14.pf g21 rfl (by omega)
 have hk0 := hk0.pf g21 hD
 refine Zj [] (Zd _) ?_
 refine Zh (Xs rfl ?_)
 refine ⟨rfl, ?_, g⟩
 simpa only [List.append_assoc, List.flatten_cons, List.flatten_nil, List.append_nil] using hP
end Go.Rk
namespace Go.Rk
open Go Go.RowKit
set_option linter.unusedVariables false
set_option maxHeartbeats 4000000 in
theorem expr_ok {t : Nd} (ih : PBel t) (hx : exprB t = true) (hok : okNd t) : PrOk Xv exT t := by
 intro p c D n0 b l k w hk0 hD hP hlen hc
 have g := PF.refl n0 b w
 have hbn := hP.ge
 have hcn : count t = 1 + (t.kids.map count).sum := Ww t
 refine Ym (m := 179) Vda rfl rfl [(0, True, _), (1, True, _)] (Za rfl (Za rfl (Zd _))) ?_
 refine Zg fun K1 hK1 => ?_
 refine Zf [1] ?_
 refine Wd rfl (Zb rfl) rfl ?_
 intro b3 w3 N3
 have l3 := newge N3 g.size
 have g := g.trans (PF.of_g (N3.g))
 have hP := hP.grow (N3.g)
 have hk0 := hk0.grow (N3.g)
 try have hkid := hkid.grow (N3.g)
 have B3 := N3.blk
 refine Zj [(0, _, _), (3, _, _)] (Za rfl (Za rfl (Zd _))) ?_
 refine Zh (hK1 _ _ ?_)
 refine Zg fun K2 hK2 => ?_
 refine Zf [3, 0] ?_
 refine Zc rfl (fun _ => Zm Ys (Zb rfl)) ?_
 refine Ya rfl (Zt Yy (Zb rfl) (fun _ => B3.at_ rfl)) ?_
 refine Zj [(0, _, _), (3, _, _), (5, _, _)] (Za rfl (Za rfl (Za rfl (Zd _)))) ?_
 refine Zh (hK2 _ _ ?_)
 refine Yp ?_
 refine Zg fun K3 hK3 => ?_
 refine Zf [3, 3] ?_
 refine Zc rfl (fun _ => Yg (Zb rfl) Zl) ?_
 refine Zc rfl (fun _ => Ze (Zb rfl)) ?_
 refine Zj [(0, _, _), (3, _, _), (5, _, _), (6, _, _)] (Za rfl (Za rfl (Za rfl (Za rfl (Zd _))))) ?_
 refine Zh (hK3 _ _ ?_)
 refine Zz (Zb rfl) (fun h1 => ?_) (fun h1 => ?_)
 ·replace h1 := of_decide_eq_true h1
  obtain ⟨ht, hl, he0⟩ := sh28 h1 hx
  have hE0 := ih.e (by omega) he0 hok
  have hc0 := Xf (t := t) (i := 0) (by omega)
  have e := exT_28 h1 hl k
  rw [e] at hlen
  try simp only [Xec, Xfc, Xgc, Xhc, Xic, Xjc, tabsL, Xkc] at hlen
  refine Zg fun K4 hK4 => ?_
  refine Zf [3, 0, 2] ?_
  refine Zc rfl (fun _ => Zi (Zb rfl)) ?_
  refine Ya rfl (Yb Zr (Zb rfl) rfl (fun _ => B3.row)) ?_
  refine Yd rfl (Zu Uq Yl (Zk (Zb rfl) (Zk (Zb rfl) (Zn))) rfl) (Yub (by omega) hE0 _ _ D n0 b _ k _ hk0 hD hP (by first | omega | (simp only [Xec, Xfc, Xgc, Xhc, Xic, Xjc, tabsL, Xkc]; omega)) hc) ?_
  rintro v10 w10 ⟨rfl, hP, g10⟩
  refine ⟨fun h => absurd h (by decide), ?_⟩
  have g := g.trans g10
  replace B3 := B3.pf g10 rfl (by omega)
  have hk0 := hk0.pf g10 hD
  refine Zj [(0, _, _), (3, _, _)] (Za rfl (Za rfl (Zd _))) ?_
  refine Zh (hK4 _ _ ?_)
  refine Zf [3, 3, 0, 1, 2] ?_
  refine Zc rfl (fun _ => Zi (Zb rfl)) ?_
  refine Zc rfl (fun _ => Zm Yw (Zb rfl)) ?_
  refine Ya rfl (Zt Yt (Zb rfl) (fun _ => B3.at_ rfl)) ?_
  refine Zx [_, _] rfl Yn Xa (Zp Zl (Zp (Zb rfl) (Yc))) rfl rfl ?_
  intro b14 w14 N14
  have x14_3 := N14.ne B3
  have l14 := newge N14 g.size
  have g := g.trans (PF.of_g (N14.g))
  replace B3 := B3.grow (N14.g)
  have hP := hP.grow (N14.g)
  have hk0 := hk0.grow (N14.g)
  try have hkid := hkid.grow (N14.g)
  have B14 := N14.blk
  refine Yd rfl (Zu Zw Yl (Zk (Zb rfl) (Zk (Zb rfl) (Zn))) rfl) (Xd [[46], t.text] hP B14 (by omega) (by first | omega | (simp only [Xec, Xfc, Xgc, Xhc, Xic, Xjc, tabsL, Xkc]; omega) | (simp at hlen ⊢ <;> omega)) (by first | rfl | (simp [ht]; done) | (simpa using ht)) (Nat.le_of_ble_eq_true rfl)) ?_
  rintro v15 w15 ⟨rfl, hP, g15⟩
  refine ⟨fun h => absurd h (by decide), ?_⟩
  have g := g.trans g15
  replace B3 := B3.pf g15 rfl (by omega)
  replace B14 := B14.pf g15 rfl (by omega)
  have hk0 := hk0.pf g15 hD
  refine Zj [] (Zd _) ?_
  refine Zh (Xs rfl ?_)
  refine ⟨rfl, ?_, g⟩
  rw [e]; simpa only [List.append_assoc, List.flatten_cons, List.flatten_nil, List.append_nil] using hP
 (try simp only [bsimp] at h1)
 refine Zg fun K5 hK5 => ?_
 refine Zf [3, 3] ?_
 refine Zc rfl (fun _ => Yg (Zb rfl) Zl) ?_
 refine Zc rfl (fun _ => Ze (Zb rfl)) ?_
 refine Zj [(0, _, _), (3, _, _), (5, _, _), (16, _, _)] (Za rfl (Za rfl (Za rfl (Za rfl (Zd _))))) ?_
 refine Zh (hK5 _ _ ?_)
 refine Zz (Zb rfl) (fun h2 => ?_) (fun h2 => ?_)
 ·replace h2 := of_decide_eq_true h2
  obtain ⟨hl, he0, he1⟩ := sh29 h2 hx
  have hE0 := ih.e (by omega) he0 hok
  have hE1 := ih.e (by omega) he1 hok
  have hc0 := Xf (t := t) (i := 0) (by omega)
  have hc1 := Xf (t := t) (i := 1) (by omega)
  have e := exT_29 h2 hl k
  rw [e] at hlen
  try simp only [Xec, Xfc, Xgc, Xhc, Xic, Xjc, tabsL, Xkc] at hlen
  refine Zg fun K6 hK6 => ?_
  refine Zf [3, 0, 2] ?_
  refine Zc rfl (fun _ => Zi (Zb rfl)) ?_
  refine Ya rfl (Yb Zr (Zb rfl) rfl (fun _ => B3.row)) ?_
  refine Yd rfl (Zu Uq Yl (Zk (Zb rfl) (Zk (Zb rfl) (Zn))) rfl) (Yub (by omega) hE0 _ _ D n0 b _ k _ hk0 hD hP (by first | omega | (simp only [Xec, Xfc, Xgc, Xhc, Xic, Xjc, tabsL, Xkc]; omega)) hc) ?_
  rintro v20 w20 ⟨rfl, hP, g20⟩
  refine ⟨fun h => absurd h (by decide), ?_⟩
  have g := g.trans g20
  replace B3 := B3.pf g20 rfl (by omega)
  have hk0 := hk0.pf g20 hD
  refine Zj [(0, _, _), (3, _, _)] (Za rfl (Za rfl (Zd _))) ?_
  refine Zh (hK6 _ _ ?_)
  refine Zg fun K7 hK7 => ?_
  refine Zf [3, 1, 2] ?_
  refine Zc rfl (fun _ => Zi (Zb rfl)) ?_
  refine Zx [_] rfl Yn Xa (Zp Zl (Yc)) rfl rfl ?_
  intro b22 w22 N22
  have x22_3 := N22.ne B3
  have l22 := newge N22 g.size
  have g := g.trans (PF.of_g (N22.g))
  replace B3 := B3.grow (N22.g)
  have hP := hP.grow (N22.g)
  have hk0 := hk0.grow (N22.g)
  try have hkid := hkid.grow (N22.g)
  have B22 := N22.blk
  refine Yd rfl (Zu Zw Yl (Zk (Zb rfl) (Zk (Zb rfl) (Zn))) rfl) (Xd [[91]] hP B22 (by omega) (by first | omega | (simp only [Xec, Xfc, Xgc, Xhc, Xic, Xjc, tabsL, Xkc]; omega) | (simp at hlen ⊢ <;> omega)) (by first | rfl | (simp [ht]; done) | (simpa using ht)) (Nat.le_of_ble_eq_true rfl)) ?_
  rintro v23 w23 ⟨rfl, hP, g23⟩
  refine ⟨fun h => absurd h (by decide), ?_⟩
  have g := g.trans g23
  replace B3 := B3.pf g23 rfl (by omega)
  replace B22 := B22.pf g23 rfl (by omega)
  have hk0 := hk0.pf g23 hD
  refine Zj [(0, _, _), (3, _, _)] (Za rfl (Za rfl (Zd _))) ?_
  refine Zh (hK7 _ _ ?_)
  refine Zg fun K8 hK8 => ?_
  refine Zf [3, 3, 0, 3, 0, 2] ?_
  refine Zc rfl (fun _ => Zi (Zb rfl)) ?_
  refine Zc rfl (fun _ => Zm Zv (Zb rfl)) ?_
  refine Ya rfl (Zt Zq (Zb rfl) (fun _ => B3.at_ rfl)) ?_
  obtain ⟨hpe, p_27, c_27, hcell, hkid⟩ := Xw hk0 (i := 1) (by omega)
  refine Zc rfl (fun _ => Xc Zo (Zb rfl) Zl (fun _ => by omega) (fun _ => hpe)) ?_
  refine Ya rfl (Yb Zr (Zb rfl) rfl (fun _ => hcell)) ?_
  refine Yd rfl (Zu Xh Yl (Zk (Zb rfl) (Zk (Zb rfl) (Zn))) rfl) (hE1 _ _ D n0 b _ k _ hkid hD hP (by first | omega | (simp only [Xec, Xfc, Xgc, Xhc, Xic, Xjc, tabsL, Xkc]; omega)) (by omega)) ?_
  rintro v29 w29 ⟨rfl, hP, g29⟩
  refine ⟨fun h => absurd h (by decide), ?_⟩
  have g := g.trans g29
  replace B3 := B3.pf g29 rfl (by omega)
  replace B22 := B22.pf g29 rfl (by omega)
  have hk0 := hk0.pf g29 hD
  refine Zj [(0, _, _)] (Za rfl (Zd _)) ?_
  refine Zh (hK8 _ _ ?_)
  refine Zf [3, 1, 2] ?_
  refine Zc rfl (fun _ => Zi (Zb rfl)) ?_
  refine Zx [_] rfl Yn Xa (Zp Zl (Yc)) rfl rfl ?_
  intro b31 w31 N31
  have x31_3 := N31.ne B3
  have x31_22 := N31.ne B22
  have l31 := newge N31 g.size
  have g := g.trans (PF.of_g (N31.g))
  replace B3 := B3.grow (N31.g)
  replace B22 := B22.grow (N31.g)
  have hP := hP.grow (N31.g)
  have hk0 := hk0.grow (N31.g)
  try have hkid := hkid.grow (N31.g)
  have B31 := N31.blk
  refine Yd rfl (Zu Zw Yl (Zk (Zb rfl) (Zk (Zb rfl) (Zn))) rfl) (Xd [[93]] hP B31 (by omega) (by first | omega | (simp only [Xec, Xfc, Xgc, Xhc, Xic, Xjc, tabsL, Xkc]; omega) | (simp at hlen ⊢ <;> omega)) (by first | rfl | (simp [ht]; done) | (simpa using ht)) (Nat.le_of_ble_eq_true rfl)) ?_
  rintro v32 w32 ⟨rfl, hP, g32⟩
  refine ⟨fun h => absurd h (by decide), ?_⟩
  have g := g.trans g32
  replace B3 := B3.pf g32 rfl (by omega)
  replace B22 := B22.pf g32 rfl (by omega)
  replace B31 := B31.pf g32 rfl (by omega)
  have hk0 := hk0.pf g32 hD
  refine Zj [] (Zd _) ?_
  refine Zh (Xs rfl ?_)
  refine ⟨rfl, ?_, g⟩
  rw [e]; simpa only [List.append_assoc, List.flatten_cons, List.flatten_nil, List.append_nil] using hP
 (try simp only [bsimp] at h2)
 refine Zg fun K9 hK9 => ?_
 refine Zf [3, 3] ?_
 refine Zc rfl (fun _ => Yg (Zb rfl) Zl) ?_
 refine Zc rfl (fun _ => Ze (Zb rfl)) ?_
 refine Zj [(0, _, _), (3, _, _), (5, _, _), (33, _, _)] (Za rfl (Za rfl (Za rfl (Za rfl (Zd _))))) ?_
 refine Zh (hK9 _ _ ?_)
 refine Zz (Zb rfl) (fun h3 => ?_) (fun h3 => ?_)
 ·replace h3 := of_decide_eq_true h3
  obtain ⟨hl, hes⟩ := sh30 h3 hx
  have hE0 := ih.e (i := 0) (by omega) (Vu hes (by omega)) hok
  have hEs := ih.es hes hok
  have hc0 := Xf (t := t) (i := 0) (by omega)
  have hsd : ((t.kids.drop 1).map count).sum ≤ (t.kids.map count).sum := by rw [← List.take_append_drop 1 (t.kids.map count), List.sum_append, List.map_drop]; omega
  have e := exT_30 h3 hl k
  rw [e] at hlen
  try simp only [Xec, Xfc, Xgc, Xhc, Xic, Xjc, tabsL, Xkc] at hlen
  refine Zg fun K10 hK10 => ?_
  refine Zf [3, 0, 2] ?_
  refine Zc rfl (fun _ => Zi (Zb rfl)) ?_
  refine Ya rfl (Yb Zr (Zb rfl) rfl (fun _ => B3.row)) ?_
  refine Yd rfl (Zu Uq Yl (Zk (Zb rfl) (Zk (Zb rfl) (Zn))) rfl) (Yub (by omega) hE0 _ _ D n0 b _ k _ hk0 hD hP (by first | omega | (simp only [Xec, Xfc, Xgc, Xhc, Xic, Xjc, tabsL, Xkc]; omega)) hc) ?_
  rintro v37 w37 ⟨rfl, hP, g37⟩
  refine ⟨fun h => absurd h (by decide), ?_⟩
  have g := g.trans g37
  replace B3 := B3.pf g37 rfl (by omega)
  have hk0 := hk0.pf g37 hD
  refine Zj [(0, _, _), (3, _, _)] (Za rfl (Za rfl (Zd _))) ?_
  refine Zh (hK10 _ _ ?_)
  refine Zg fun K11 hK11 => ?_
  refine Zf [3, 1, 2] ?_
  refine Zc rfl (fun _ => Zi (Zb rfl)) ?_
  refine Zx [_] rfl Yn Xa (Zp Zl (Yc)) rfl rfl ?_
  intro b39 w39 N39
  have x39_3 := N39.ne B3
  have l39 := newge N39 g.size
  have g := g.trans (PF.of_g (N39.g))
  replace B3 := B3.grow (N39.g)
  have hP := hP.grow (N39.g)
  have hk0 := hk0.grow (N39.g)
  try have hkid := hkid.grow (N39.g)
  have B39 := N39.blk
  refine Yd rfl (Zu Zw Yl (Zk (Zb rfl) (Zk (Zb rfl) (Zn))) rfl) (Xd [[40]] hP B39 (by omega) (by first | omega | (simp only [Xec, Xfc, Xgc, Xhc, Xic, Xjc, tabsL, Xkc]; omega) | (simp at hlen ⊢ <;> omega)) (by first | rfl | (simp [ht]; done) | (simpa using ht)) (Nat.le_of_ble_eq_true rfl)) ?_
  rintro v40 w40 ⟨rfl, hP, g40⟩
  refine ⟨fun h => absurd h (by decide), ?_⟩
  have g := g.trans g40
  replace B3 := B3.pf g40 rfl (by omega)
  replace B39 := B39.pf g40 rfl (by omega)
  have hk0 := hk0.pf g40 hD
  refine Zj [(0, _, _), (3, _, _)] (Za rfl (Za rfl (Zd _))) ?_
  refine Zh (hK11 _ _ ?_)
  refine Zg fun K12 hK12 => ?_
  refine Zf [3, 3, 0, 3, 2] ?_
  obtain ⟨b44, o44, rfl, hkd⟩ := kd_drop hk0 hl
  refine Zc rfl (fun _ => Zi (Zb rfl)) ?_
  refine Zc rfl (fun _ => Zm Zv (Zb rfl)) ?_
  refine Ya rfl (Zt Zq (Zb rfl) (fun _ => B3.at_ rfl)) ?_
  refine Zc rfl (fun _ => rd_sl_from Zo (Zb rfl) Zl (fun _ => by omega)) ?_
  refine Yd rfl (Zu Wq Yl (Zk (Zb rfl) (Zk (Zb rfl) (Zn))) rfl) (list_ok' (by rw [List.length_drop]; rfl) (fun x hm => hEs x (List.mem_of_mem_drop hm)) hkd hD hP (by first | omega | (simp only [Xec, Xfc, Xgc, Xhc, Xic, Xjc, tabsL, Xkc]; omega)) (by omega)) ?_
  rintro v45 w45 ⟨rfl, hP, g45⟩
  refine ⟨fun h => absurd h (by decide), ?_⟩
  have g := g.trans g45
  replace B3 := B3.pf g45 rfl (by omega)
  replace B39 := B39.pf g45 rfl (by omega)
  have hk0 := hk0.pf g45 hD
  refine Zj [(0, _, _)] (Za rfl (Zd _)) ?_
  refine Zh (hK12 _ _ ?_)
  refine Zf [3, 1, 2] ?_
  refine Zc rfl (fun _ => Zi (Zb rfl)) ?_
  refine Zx [_] rfl Yn Xa (Zp Zl (Yc)) rfl rfl ?_
  intro b47 w47 N47
  have x47_3 := N47.ne B3
  have x47_39 := N47.ne B39
  have l47 := newge N47 g.size
  have g := g.trans (PF.of_g (N47.g))
  replace B3 := B3.grow (N47.g)
  replace B39 := B39.grow (N47.g)
  have hP := hP.grow (N47.g)
  have hk0 := hk0.grow (N47.g)
  try have hkid := hkid.grow (N47.g)
  have B47 := N47.blk
  refine Yd rfl (Zu Zw Yl (Zk (Zb rfl) (Zk (Zb rfl) (Zn))) rfl) (Xd [[41]] hP B47 (by omega) (by first | omega | (simp only [Xec, Xfc, Xgc, Xhc, Xic, Xjc, tabsL, Xkc]; omega) | (simp at hlen ⊢ <;> omega)) (by first | rfl | (simp [ht]; done) | (simpa using ht)) (Nat.le_of_ble_eq_true rfl)) ?_
  rintro v48 w48 ⟨rfl, hP, g48⟩
  refine ⟨fun h => absurd h (by decide), ?_⟩
  have g := g.trans g48
  replace B3 := B3.pf g48 rfl (by omega)
  replace B39 := B39.pf g48 rfl (by omega)
  replace B47 := B47.pf g48 rfl (by omega)
  have hk0 := hk0.pf g48 hD
  refine Zj [] (Zd _) ?_
  refine Zh (Xs rfl ?_)
  refine ⟨rfl, ?_, g⟩
  rw [e]; simpa only [List.append_assoc, List.flatten_cons, List.flatten_nil, List.append_nil] using hP
 (try simp only [bsimp] at h3)
 refine Zg fun K13 hK13 => ?_
 refine Zf [3, 3] ?_
 refine Zc rfl (fun _ => Yg (Zb rfl) Zl) ?_
 refine Zc rfl (fun _ => Ze (Zb rfl)) ?_
 refine Zj [(0, _, _), (3, _, _), (5, _, _), (49, _, _)] (Za rfl (Za rfl (Za rfl (Za rfl (Zd _))))) ?_
 refine Zh (hK13 _ _ ?_)
 refine Zz (Zb rfl) (fun h4 => ?_) (fun h4 => ?_)
 ·replace h4 := of_decide_eq_true h4
  obtain ⟨ht, hl, he0⟩ := sh31 h4 hx
  have hE0 := ih.e (by omega) he0 hok
  have hc0 := Xf (t := t) (i := 0) (by omega)
  have e := exT_31 h4 hl k
  rw [e] at hlen
  try simp only [Xec, Xfc, Xgc, Xhc, Xic, Xjc, tabsL, Xkc] at hlen
  refine Zg fun K14 hK14 => ?_
  refine Zf [3, 3, 0, 1, 2] ?_
  refine Zc rfl (fun _ => Zi (Zb rfl)) ?_
  refine Zc rfl (fun _ => Zm Yw (Zb rfl)) ?_
  refine Ya rfl (Zt Yt (Zb rfl) (fun _ => B3.at_ rfl)) ?_
  refine Zx [_] rfl Yn Xa (Zp (Zb rfl) (Yc)) rfl rfl ?_
  intro b54 w54 N54
  have x54_3 := N54.ne B3
  have l54 := newge N54 g.size
  have g := g.trans (PF.of_g (N54.g))
  replace B3 := B3.grow (N54.g)
  have hP := hP.grow (N54.g)
  have hk0 := hk0.grow (N54.g)
  try have hkid := hkid.grow (N54.g)
  have B54 := N54.blk
  refine Yd rfl (Zu Zw Yl (Zk (Zb rfl) (Zk (Zb rfl) (Zn))) rfl) (Xd [t.text] hP B54 (by omega) (by first | omega | (simp only [Xec, Xfc, Xgc, Xhc, Xic, Xjc, tabsL, Xkc]; omega) | (simp at hlen ⊢ <;> omega)) (by first | rfl | (simp [ht]; done) | (simpa using ht)) (Nat.le_of_ble_eq_true rfl)) ?_
  rintro v55 w55 ⟨rfl, hP, g55⟩
  refine ⟨fun h => absurd h (by decide), ?_⟩
  have g := g.trans g55
  replace B3 := B3.pf g55 rfl (by omega)
  replace B54 := B54.pf g55 rfl (by omega)
  have hk0 := hk0.pf g55 hD
  refine Zj [(0, _, _), (3, _, _)] (Za rfl (Za rfl (Zd _))) ?_
  refine Zh (hK14 _ _ ?_)
  refine Zf [3, 3, 0, 3, 0, 1, 2] ?_
  refine Zc rfl (fun _ => Zi (Zb rfl)) ?_
  refine Zc rfl (fun _ => Zm Zv (Zb rfl)) ?_
  refine Ya rfl (Zt Zq (Zb rfl) (fun _ => B3.at_ rfl)) ?_
  obtain ⟨hpe, p_59, c_59, hcell, hkid⟩ := Xw hk0 (i := 0) (by omega)
  refine Zc rfl (fun _ => Xc Zo (Zb rfl) Zl (fun _ => by omega) (fun _ => hpe)) ?_
  refine Ya rfl (Yb Zr (Zb rfl) rfl (fun _ => hcell)) ?_
  refine Zx [_] rfl Wt Qc (Zp Zl (Yc)) rfl rfl ?_
  intro b61 w61 N61
  have x61_3 := N61.ne B3
  have x61_54 := N61.ne B54
  have l61 := newge N61 g.size
  have g := g.trans (PF.of_g (N61.g))
  replace B3 := B3.grow (N61.g)
  replace B54 := B54.grow (N61.g)
  have hP := hP.grow (N61.g)
  have hk0 := hk0.grow (N61.g)
  try have hkid := hkid.grow (N61.g)
  have B61 := N61.blk
  refine Yd rfl (Zu Vi Yl (Zk (Zb rfl) (Zk (Zb rfl) (Zk (Zb rfl) (Zn)))) rfl) (Jua hE0 [32] _ _ hkid hD hP B61 (by decide) (by first | omega | (simp only [Xec, Xfc, Xgc, Xhc, Xic, Xjc, tabsL, Xkc]; omega)) (by omega)) ?_
  rintro v62 w62 ⟨rfl, hP, g62⟩
  refine ⟨fun h => absurd h (by decide), ?_⟩
  have g := g.trans g62
  replace B3 := B3.pf g62 rfl (by omega)
  replace B54 := B54.pf g62 rfl (by omega)
  replace B61 := B61.pf g62 rfl (by omega)
  have hk0 := hk0.pf g62 hD
  refine Zj [] (Zd _) ?_
  refine Zh (Xs rfl ?_)
  refine ⟨rfl, ?_, g⟩
  rw [e]; simpa only [List.append_assoc, List.flatten_cons, List.flatten_nil, List.append_nil] using hP
 (try simp only [bsimp] at h4)
 refine Zg fun K15 hK15 => ?_
 refine Zf [3, 3] ?_
 refine Zc rfl (fun _ => Yg (Zb rfl) Zl) ?_
 refine Zc rfl (fun _ => Ze (Zb rfl)) ?_
 refine Zj [(0, _, _), (3, _, _), (5, _, _), (63, _, _)] (Za rfl (Za rfl (Za rfl (Za rfl (Zd _))))) ?_
 refine Zh (hK15 _ _ ?_)
 refine Zz (Zb rfl) (fun h5 => ?_) (fun h5 => ?_)
 ·replace h5 := of_decide_eq_true h5
  obtain ⟨hl, he0⟩ := sh33 h5 hx
  have hE0 := ih.e (by omega) he0 hok
  have hc0 := Xf (t := t) (i := 0) (by omega)
  have e := exT_33 h5 hl k
  rw [e] at hlen
  try simp only [Xec, Xfc, Xgc, Xhc, Xic, Xjc, tabsL, Xkc] at hlen
  refine Zg fun K16 hK16 => ?_
  refine Zf [3, 1, 2] ?_
  refine Zc rfl (fun _ => Zi (Zb rfl)) ?_
  refine Zx [_] rfl Yn Xa (Zp Zl (Yc)) rfl rfl ?_
  intro b66 w66 N66
  have x66_3 := N66.ne B3
  have l66 := newge N66 g.size
  have g := g.trans (PF.of_g (N66.g))
  replace B3 := B3.grow (N66.g)
  have hP := hP.grow (N66.g)
  have hk0 := hk0.grow (N66.g)
  try have hkid := hkid.grow (N66.g)
  have B66 := N66.blk
  refine Yd rfl (Zu Zw Yl (Zk (Zb rfl) (Zk (Zb rfl) (Zn))) rfl) (Xd [[60, 45]] hP B66 (by omega) (by first | omega | (simp only [Xec, Xfc, Xgc, Xhc, Xic, Xjc, tabsL, Xkc]; omega) | (simp at hlen ⊢ <;> omega)) (by first | rfl | (simp [ht]; done) | (simpa using ht)) (Nat.le_of_ble_eq_true rfl)) ?_
  rintro v67 w67 ⟨rfl, hP, g67⟩
  refine ⟨fun h => absurd h (by decide), ?_⟩
  have g := g.trans g67
  replace B3 := B3.pf g67 rfl (by omega)
  replace B66 := B66.pf g67 rfl (by omega)
  have hk0 := hk0.pf g67 hD
  refine Zj [(0, _, _), (3, _, _)] (Za rfl (Za rfl (Zd _))) ?_
  refine Zh (hK16 _ _ ?_)
  refine Zf [3, 3, 0, 3, 0, 1, 2] ?_
  refine Zc rfl (fun _ => Zi (Zb rfl)) ?_
  refine Zc rfl (fun _ => Zm Zv (Zb rfl)) ?_
  refine Ya rfl (Zt Zq (Zb rfl) (fun _ => B3.at_ rfl)) ?_
  obtain ⟨hpe, p_71, c_71, hcell, hkid⟩ := Xw hk0 (i := 0) (by omega)
  refine Zc rfl (fun _ => Xc Zo (Zb rfl) Zl (fun _ => by omega) (fun _ => hpe)) ?_
  refine Ya rfl (Yb Zr (Zb rfl) rfl (fun _ => hcell)) ?_
  refine Zx [_] rfl Wt Qc (Zp Zl (Yc)) rfl rfl ?_
  intro b73 w73 N73
  have x73_3 := N73.ne B3
  have x73_66 := N73.ne B66
  have l73 := newge N73 g.size
  have g := g.trans (PF.of_g (N73.g))
  replace B3 := B3.grow (N73.g)
  replace B66 := B66.grow (N73.g)
  have hP := hP.grow (N73.g)
  have hk0 := hk0.grow (N73.g)
  try have hkid := hkid.grow (N73.g)
  have B73 := N73.blk
  refine Yd rfl (Zu Vi Yl (Zk (Zb rfl) (Zk (Zb rfl) (Zk (Zb rfl) (Zn)))) rfl) (Jua hE0 [32] _ _ hkid hD hP B73 (by decide) (by first | omega | (simp only [Xec, Xfc, Xgc, Xhc, Xic, Xjc, tabsL, Xkc]; omega)) (by omega)) ?_
  rintro v74 w74 ⟨rfl, hP, g74⟩
  refine ⟨fun h => absurd h (by decide), ?_⟩
  have g := g.trans g74
  replace B3 := B3.pf g74 rfl (by omega)
  replace B66 := B66.pf g74 rfl (by omega)
  replace B73 := B73.pf g74 rfl (by omega)
  have hk0 := hk0.pf g74 hD
  refine Zj [] (Zd _) ?_
  refine Zh (Xs rfl ?_)
  refine ⟨rfl, ?_, g⟩
  rw [e]; simpa only [List.append_assoc, List.flatten_cons, List.flatten_nil, List.append_nil] using hP
 (try simp only [bsimp] at h5)
 refine Zg fun K17 hK17 => ?_
 refine Zf [3, 3] ?_
 refine Zc rfl (fun _ => Yg (Zb rfl) Zl) ?_
 refine Zc rfl (fun _ => Ze (Zb rfl)) ?_
 refine Zj [(0, _, _), (3, _, _), (5, _, _), (75, _, _)] (Za rfl (Za rfl (Za rfl (Za rfl (Zd _))))) ?_
 refine Zh (hK17 _ _ ?_)
 refine Zz (Zb rfl) (fun h6 => ?_) (fun h6 => ?_)
 ·replace h6 := of_decide_eq_true h6
  obtain ⟨ht, hl, he0, he1⟩ := sh32 h6 hx
  have hE0 := ih.e (by omega) he0 hok
  have hE1 := ih.e (by omega) he1 hok
  have hc0 := Xf (t := t) (i := 0) (by omega)
  have hc1 := Xf (t := t) (i := 1) (by omega)
  have e := exT_32 h6 hl k
  rw [e] at hlen
  try simp only [Xec, Xfc, Xgc, Xhc, Xic, Xjc, tabsL, Xkc] at hlen
  refine Zg fun K18 hK18 => ?_
  refine Zf [3, 3, 0, 3, 0, 1, 2] ?_
  refine Zc rfl (fun _ => Zi (Zb rfl)) ?_
  refine Zc rfl (fun _ => Zm Zv (Zb rfl)) ?_
  refine Ya rfl (Zt Zq (Zb rfl) (fun _ => B3.at_ rfl)) ?_
  obtain ⟨hpe, p_80, c_80, hcell, hkid⟩ := Xw hk0 (i := 0) (by omega)
  refine Zc rfl (fun _ => Xc Zo (Zb rfl) Zl (fun _ => by omega) (fun _ => hpe)) ?_
  refine Ya rfl (Yb Zr (Zb rfl) rfl (fun _ => hcell)) ?_
  refine Zx [_] rfl Wt Qc (Zp Zl (Yc)) rfl rfl ?_
  intro b82 w82 N82
  have x82_3 := N82.ne B3
  have l82 := newge N82 g.size
  have g := g.trans (PF.of_g (N82.g))
  replace B3 := B3.grow (N82.g)
  have hP := hP.grow (N82.g)
  have hk0 := hk0.grow (N82.g)
  try have hkid := hkid.grow (N82.g)
  have B82 := N82.blk
  refine Yd rfl (Zu Vi Yl (Zk (Zb rfl) (Zk (Zb rfl) (Zk (Zb rfl) (Zn)))) rfl) (Jua hE0 [32] _ _ hkid hD hP B82 (by decide) (by first | omega | (simp only [Xec, Xfc, Xgc, Xhc, Xic, Xjc, tabsL, Xkc]; omega)) (by omega)) ?_
  rintro v83 w83 ⟨rfl, hP, g83⟩
  refine ⟨fun h => absurd h (by decide), ?_⟩
  have g := g.trans g83
  replace B3 := B3.pf g83 rfl (by omega)
  replace B82 := B82.pf g83 rfl (by omega)
  have hk0 := hk0.pf g83 hD
  refine Zj [(0, _, _), (3, _, _)] (Za rfl (Za rfl (Zd _))) ?_
  refine Zh (hK18 _ _ ?_)
  refine Zg fun K19 hK19 => ?_
  refine Zf [3, 3, 0, 1, 2] ?_
  refine Zc rfl (fun _ => Zi (Zb rfl)) ?_
  refine Zc rfl (fun _ => Zm Yw (Zb rfl)) ?_
  refine Ya rfl (Zt Yt (Zb rfl) (fun _ => B3.at_ rfl)) ?_
  refine Zx [_, _, _] rfl Yn Xa (Zp Zl (Zp (Zb rfl) (Zp Zl (Yc)))) rfl rfl ?_
  intro b87 w87 N87
  have x87_3 := N87.ne B3
  have x87_82 := N87.ne B82
  have l87 := newge N87 g.size
  have g := g.trans (PF.of_g (N87.g))
  replace B3 := B3.grow (N87.g)
  replace B82 := B82.grow (N87.g)
  have hP := hP.grow (N87.g)
  have hk0 := hk0.grow (N87.g)
  try have hkid := hkid.grow (N87.g)
  have B87 := N87.blk
  refine Yd rfl (Zu Zw Yl (Zk (Zb rfl) (Zk (Zb rfl) (Zn))) rfl) (Xd [[32], t.text, [32]] hP B87 (by omega) (by first | omega | (simp only [Xec, Xfc, Xgc, Xhc, Xic, Xjc, tabsL, Xkc]; omega) | (simp at hlen ⊢ <;> omega)) (by first | rfl | (simp [ht]; done) | (simpa using ht)) (Nat.le_of_ble_eq_true rfl)) ?_
  rintro v88 w88 ⟨rfl, hP, g88⟩
  refine ⟨fun h => absurd h (by decide), ?_⟩
  have g := g.trans g88
  replace B3 := B3.pf g88 rfl (by omega)
  replace B82 := B82.pf g88 rfl (by omega)
  replace B87 := B87.pf g88 rfl (by omega)
  have hk0 := hk0.pf g88 hD
  refine Zj [(0, _, _), (3, _, _)] (Za rfl (Za rfl (Zd _))) ?_
  refine Zh (hK19 _ _ ?_)
  refine Zf [3, 3, 0, 3, 0, 1, 2] ?_
  refine Zc rfl (fun _ => Zi (Zb rfl)) ?_
  refine Zc rfl (fun _ => Zm Zv (Zb rfl)) ?_
  refine Ya rfl (Zt Zq (Zb rfl) (fun _ => B3.at_ rfl)) ?_
  obtain ⟨hpe, p_92, c_92, hcell, hkid⟩ := Xw hk0 (i := 1) (by omega)
  refine Zc rfl (fun _ => Xc Zo (Zb rfl) Zl (fun _ => by omega) (fun _ => hpe)) ?_
  refine Ya rfl (Yb Zr (Zb rfl) rfl (fun _ => hcell)) ?_
  refine Zx [_] rfl Wt Qc (Zp Zl (Yc)) rfl rfl ?_
  intro b94 w94 N94
  have x94_3 := N94.ne B3
  have x94_82 := N94.ne B82
  have x94_87 := N94.ne B87
  have l94 := newge N94 g.size
  have g := g.trans (PF.of_g (N94.g))
  replace B3 := B3.grow (N94.g)
  replace B82 := B82.grow (N94.g)
  replace B87 := B87.grow (N94.g)
  have hP := hP.grow (N94.g)
  have hk0 := hk0.grow (N94.g)
  try have hkid := hkid.grow (N94.g)
  have B94 := N94.blk
  refine Yd rfl (Zu Vi Yl (Zk (Zb rfl) (Zk (Zb rfl) (Zk (Zb rfl) (Zn)))) rfl) (Jua hE1 [32] _ _ hkid hD hP B94 (by decide) (by first | omega | (simp only [Xec, Xfc, Xgc, Xhc, Xic, Xjc, tabsL, Xkc]; omega)) (by omega)) ?_
  rintro v95 w95 ⟨rfl, hP, g95⟩
  refine ⟨fun h => absurd h (by decide), ?_⟩
  have g := g.trans g95
  replace B3 := B3.pf g95 rfl (by omega)
  replace B82 := B82.pf g95 rfl (by omega)
  replace B87 := B87.pf g95 rfl (by omega)
  replace B94 := B94.pf g95 rfl (by omega)
  have hk0 := hk0.pf g95 hD
  refine Zj [] (Zd _) ?_
  refine Zh (Xs rfl ?_)
  refine ⟨rfl, ?_, g⟩
  rw [e]; simpa only [List.append_assoc, List.flatten_cons, List.flatten_nil, List.append_nil] using hP
 (try simp only [bsimp] at h6)
 refine Zg fun K20 hK20 => ?_
 refine Zf [3, 3] ?_
 refine Zc rfl (fun _ => Yg (Zb rfl) Zl) ?_
 refine Zc rfl (fun _ => Ze (Zb rfl)) ?_
 refine Zj [(0, _, _), (3, _, _), (5, _, _), (96, _, _)] (Za rfl (Za rfl (Za rfl (Za rfl (Zd _))))) ?_
 refine Zh (hK20 _ _ ?_)
 refine Zz (Zb rfl) (fun h7 => ?_) (fun h7 => ?_)
 ·replace h7 := of_decide_eq_true h7
  have hn0 := sh24 h7 hx
  have ht := digL_ne t.num.toNat
  have e := exT_24 h7 k
  rw [e] at hlen
  try simp only [Xec, Xfc, Xgc, Xhc, Xic, Xjc, tabsL, Xkc] at hlen
  refine Zf [3, 3, 0, 1, 1, 2] ?_
  refine Zc rfl (fun _ => Zi (Zb rfl)) ?_
  refine Zc rfl (fun _ => Zm Wy (Zb rfl)) ?_
  refine Ya rfl (Zt Yy (Zb rfl) (fun _ => B3.at_ rfl)) ?_
  refine Yd rfl (Zu Qnb Yl (Zk (Zb rfl) (Zn)) rfl) (itoa_ok t.num hn0 (ok_num hok) hP.tab) ?_
  rintro v101 w101 ⟨rfl, g101⟩
  refine ⟨fun _ => g101, ?_⟩
  have g := g.trans (PF.of_g (g101))
  replace B3 := B3.grow (g101)
  have hP := hP.grow (g101)
  have hk0 := hk0.grow (g101)
  try have hkid := hkid.grow (g101)
  refine Zx [_] rfl Yn Xa (Zp (Zb rfl) (Yc)) rfl rfl ?_
  intro b102 w102 N102
  have x102_3 := N102.ne B3
  have l102 := newge N102 g.size
  have g := g.trans (PF.of_g (N102.g))
  replace B3 := B3.grow (N102.g)
  have hP := hP.grow (N102.g)
  have hk0 := hk0.grow (N102.g)
  try have hkid := hkid.grow (N102.g)
  have B102 := N102.blk
  refine Yd rfl (Zu Zw Yl (Zk (Zb rfl) (Zk (Zb rfl) (Zn))) rfl) (Xd [digL t.num.toNat] hP B102 (by omega) (by first | omega | (simp only [Xec, Xfc, Xgc, Xhc, Xic, Xjc, tabsL, Xkc]; omega) | (simp at hlen ⊢ <;> omega)) (by first | rfl | (simp [ht]; done) | (simpa using ht)) (Nat.le_of_ble_eq_true rfl)) ?_
  rintro v103 w103 ⟨rfl, hP, g103⟩
  refine ⟨fun h => absurd h (by decide), ?_⟩
  have g := g.trans g103
  replace B3 := B3.pf g103 rfl (by omega)
  replace B102 := B102.pf g103 rfl (by omega)
  have hk0 := hk0.pf g103 hD
  refine Zj [] (Zd _) ?_
  refine Zh (Xs rfl ?_)
  refine ⟨rfl, ?_, g⟩
  rw [e]; simpa only [List.append_assoc, List.flatten_cons, List.flatten_nil, List.append_nil] using hP
 (try simp only [bsimp] at h7)
 refine Zg fun K21 hK21 => ?_
 refine Zf [3, 3] ?_
 refine Zc rfl (fun _ => Yg (Zb rfl) Zl) ?_
 refine Zc rfl (fun _ => Ze (Zb rfl)) ?_
 refine Zj [(0, _, _), (3, _, _), (5, _, _), (104, _, _)] (Za rfl (Za rfl (Za rfl (Za rfl (Zd _))))) ?_
 refine Zh (hK21 _ _ ?_)
 refine Zz (Zb rfl) (fun h8 => ?_) (fun h8 => ?_)
 ·replace h8 := of_decide_eq_true h8
  have ht : (bif decide (t.num = 1) then [116, 114, 117, 101] else [102, 97, 108, 115, 101] : List UInt8) ≠ [] := by cases decide (t.num = 1) <;> simp
  have e := exT_25 h8 k
  rw [e] at hlen
  try simp only [Xec, Xfc, Xgc, Xhc, Xic, Xjc, tabsL, Xkc] at hlen
  refine Zf [3, 3, 0, 3, 1, 1, 2] ?_
  refine Zc rfl (fun _ => Zi (Zb rfl)) ?_
  refine Zc rfl (fun _ => Zm Wy (Zb rfl)) ?_
  refine Ya rfl (Zt Yy (Zb rfl) (fun _ => B3.at_ rfl)) ?_
  refine Zc rfl (fun _ => Yg (Zb rfl) Zl) ?_
  refine Yd rfl (Zu Qha Yl (Zk (Zb rfl) (Zn)) rfl) (fbool_ok _ _) ?_
  rintro v110 w110 ⟨rfl, g110⟩
  refine ⟨fun _ => g110, ?_⟩
  have g := g.trans (PF.of_g (g110))
  replace B3 := B3.grow (g110)
  have hP := hP.grow (g110)
  have hk0 := hk0.grow (g110)
  try have hkid := hkid.grow (g110)
  refine Zx [_] rfl Yn Xa (Zp (Zb rfl) (Yc)) rfl rfl ?_
  intro b111 w111 N111
  have x111_3 := N111.ne B3
  have l111 := newge N111 g.size
  have g := g.trans (PF.of_g (N111.g))
  replace B3 := B3.grow (N111.g)
  have hP := hP.grow (N111.g)
  have hk0 := hk0.grow (N111.g)
  try have hkid := hkid.grow (N111.g)
  have B111 := N111.blk
  refine Yd rfl (Zu Zw Yl (Zk (Zb rfl) (Zk (Zb rfl) (Zn))) rfl) (Xd [bif decide (t.num = 1) then [116, 114, 117, 101] else [102, 97, 108, 115, 101]] hP B111 (by omega) (by first | omega | (simp only [Xec, Xfc, Xgc, Xhc, Xic, Xjc, tabsL, Xkc]; omega) | (simp at hlen ⊢ <;> omega)) (by first | rfl | (simp [ht]; done) | (simpa using ht)) (Nat.le_of_ble_eq_true rfl)) ?_
  rintro v112 w112 ⟨rfl, hP, g112⟩
  refine ⟨fun h => absurd h (by decide), ?_⟩
  have g := g.trans g112
  replace B3 := B3.pf g112 rfl (by omega)
  replace B111 := B111.pf g112 rfl (by omega)
  have hk0 := hk0.pf g112 hD
  refine Zj [] (Zd _) ?_
  refine Zh (Xs rfl ?_)
  refine ⟨rfl, ?_, g⟩
  rw [e]; simpa only [List.append_assoc, List.flatten_cons, List.flatten_nil, List.append_nil] using hP
 (try simp only [bsimp] at h8)
 refine Zg fun K22 hK22 => ?_
 refine Zf [3, 3] ?_
 refine Zc rfl (fun _ => Yg (Zb rfl) Zl) ?_
 refine Zc rfl (fun _ => Ze (Zb rfl)) ?_
 refine Zj [(0, _, _), (3, _, _), (5, _, _), (113, _, _)] (Za rfl (Za rfl (Za rfl (Za rfl (Zd _))))) ?_
 refine Zh (hK22 _ _ ?_)
 refine Zz (Zb rfl) (fun h9 => ?_) (fun h9 => ?_)
 ·replace h9 := of_decide_eq_true h9
  have e := exT_26 h9 k
  rw [e] at hlen
  try simp only [Xec, Xfc, Xgc, Xhc, Xic, Xjc, tabsL, Xkc] at hlen
  refine Zf [3, 1, 2] ?_
  refine Zc rfl (fun _ => Zi (Zb rfl)) ?_
  refine Zx [_] rfl Yn Xa (Zp Zl (Yc)) rfl rfl ?_
  intro b116 w116 N116
  have x116_3 := N116.ne B3
  have l116 := newge N116 g.size
  have g := g.trans (PF.of_g (N116.g))
  replace B3 := B3.grow (N116.g)
  have hP := hP.grow (N116.g)
  have hk0 := hk0.grow (N116.g)
  try have hkid := hkid.grow (N116.g)
  have B116 := N116.blk
  refine Yd rfl (Zu Zw Yl (Zk (Zb rfl) (Zk (Zb rfl) (Zn))) rfl) (Xd [[110, 105, 108]] hP B116 (by omega) (by first | omega | (simp only [Xec, Xfc, Xgc, Xhc, Xic, Xjc, tabsL, Xkc]; omega) | (simp at hlen ⊢ <;> omega)) (by first | rfl | (simp [ht]; done) | (simpa using ht)) (Nat.le_of_ble_eq_true rfl)) ?_
  rintro v117 w117 ⟨rfl, hP, g117⟩
  refine ⟨fun h => absurd h (by decide), ?_⟩
  have g := g.trans g117
  replace B3 := B3.pf g117 rfl (by omega)
  replace B116 := B116.pf g117 rfl (by omega)
  have hk0 := hk0.pf g117 hD
  refine Zj [] (Zd _) ?_
  refine Zh (Xs rfl ?_)
  refine ⟨rfl, ?_, g⟩
  rw [e]; simpa only [List.append_assoc, List.flatten_cons, List.flatten_nil, List.append_nil] using hP
 (try simp only [bsimp] at h9)
 refine Zg fun K23 hK23 => ?_
 refine Zf [3, 3] ?_
 refine Zc rfl (fun _ => Yg (Zb rfl) Zl) ?_
 refine Zc rfl (fun _ => Ze (Zb rfl)) ?_
 refine Zj [(0, _, _), (3, _, _), (5, _, _), (118, _, _)] (Za rfl (Za rfl (Za rfl (Za rfl (Zd _))))) ?_
 refine Zh (hK23 _ _ ?_)
 refine Zz (Zb rfl) (fun h10 => ?_) (fun h10 => ?_)
 ·replace h10 := of_decide_eq_true h10
  have ht := sh27 h10 hx
  have e := exT_27 h10 k
  rw [e] at hlen
  try simp only [Xec, Xfc, Xgc, Xhc, Xic, Xjc, tabsL, Xkc] at hlen
  refine Zf [3, 3, 0, 1, 2] ?_
  refine Zc rfl (fun _ => Zi (Zb rfl)) ?_
  refine Zc rfl (fun _ => Zm Yw (Zb rfl)) ?_
  refine Ya rfl (Zt Yt (Zb rfl) (fun _ => B3.at_ rfl)) ?_
  refine Zx [_] rfl Yn Xa (Zp (Zb rfl) (Yc)) rfl rfl ?_
  intro b123 w123 N123
  have x123_3 := N123.ne B3
  have l123 := newge N123 g.size
  have g := g.trans (PF.of_g (N123.g))
  replace B3 := B3.grow (N123.g)
  have hP := hP.grow (N123.g)
  have hk0 := hk0.grow (N123.g)
  try have hkid := hkid.grow (N123.g)
  have B123 := N123.blk
  refine Yd rfl (Zu Zw Yl (Zk (Zb rfl) (Zk (Zb rfl) (Zn))) rfl) (Xd [t.text] hP B123 (by omega) (by first | omega | (simp only [Xec, Xfc, Xgc, Xhc, Xic, Xjc, tabsL, Xkc]; omega) | (simp at hlen ⊢ <;> omega)) (by first | rfl | (simp [ht]; done) | (simpa using ht)) (Nat.le_of_ble_eq_true rfl)) ?_
  rintro v124 w124 ⟨rfl, hP, g124⟩
  refine ⟨fun h => absurd h (by decide), ?_⟩
  have g := g.trans g124
  replace B3 := B3.pf g124 rfl (by omega)
  replace B123 := B123.pf g124 rfl (by omega)
  have hk0 := hk0.pf g124 hD
  refine Zj [] (Zd _) ?_
  refine Zh (Xs rfl ?_)
  refine ⟨rfl, ?_, g⟩
  rw [e]; simpa only [List.append_assoc, List.flatten_cons, List.flatten_nil, List.append_nil] using hP
 (try simp only [bsimp] at h10)
 refine Zg fun K24 hK24 => ?_
 refine Zf [3, 3] ?_
 refine Zc rfl (fun _ => Yg (Zb rfl) Zl) ?_
 refine Zc rfl (fun _ => Ze (Zb rfl)) ?_
 refine Zj [(0, _, _), (3, _, _), (5, _, _), (125, _, _)] (Za rfl (Za rfl (Za rfl (Za rfl (Zd _))))) ?_
 refine Zh (hK24 _ _ ?_)
 refine Zz (Zb rfl) (fun h11 => ?_) (fun h11 => ?_)
 ·replace h11 := of_decide_eq_true h11
  have ht := sh34 h11 hx
  have e := exT_34 h11 k
  rw [e] at hlen
  try simp only [Xec, Xfc, Xgc, Xhc, Xic, Xjc, tabsL, Xkc] at hlen
  refine Zf [3, 3, 0, 1, 2] ?_
  refine Zc rfl (fun _ => Zi (Zb rfl)) ?_
  refine Zc rfl (fun _ => Zm Yw (Zb rfl)) ?_
  refine Ya rfl (Zt Yt (Zb rfl) (fun _ => B3.at_ rfl)) ?_
  refine Zx [_, _, _] rfl Yn Xa (Zp Zl (Zp (Zb rfl) (Zp Zl (Yc)))) rfl rfl ?_
  intro b130 w130 N130
  have x130_3 := N130.ne B3
  have l130 := newge N130 g.size
  have g := g.trans (PF.of_g (N130.g))
  replace B3 := B3.grow (N130.g)
  have hP := hP.grow (N130.g)
  have hk0 := hk0.grow (N130.g)
  try have hkid := hkid.grow (N130.g)
  have B130 := N130.blk
  refine Yd rfl (Zu Zw Yl (Zk (Zb rfl) (Zk (Zb rfl) (Zn))) rfl) (Xd [[110, 101, 119, 40], t.text, [41]] hP B130 (by omega) (by first | omega | (simp only [Xec, Xfc, Xgc, Xhc, Xic, Xjc, tabsL, Xkc]; omega) | (simp at hlen ⊢ <;> omega)) (by first | rfl | (simp [ht]; done) | (simpa using ht)) (Nat.le_of_ble_eq_true rfl)) ?_
  rintro v131 w131 ⟨rfl, hP, g131⟩
  refine ⟨fun h => absurd h (by decide), ?_⟩
  have g := g.trans g131
  replace B3 := B3.pf g131 rfl (by omega)
  replace B130 := B130.pf g131 rfl (by omega)
  have hk0 := hk0.pf g131 hD
  refine Zj [] (Zd _) ?_
  refine Zh (Xs rfl ?_)
  refine ⟨rfl, ?_, g⟩
  rw [e]; simpa only [List.append_assoc, List.flatten_cons, List.flatten_nil, List.append_nil] using hP
 (try simp only [bsimp] at h11)
 refine Zg fun K25 hK25 => ?_
 refine Zf [3, 3] ?_
 refine Zc rfl (fun _ => Yg (Zb rfl) Zl) ?_
 refine Zc rfl (fun _ => Ze (Zb rfl)) ?_
 refine Zj [(0, _, _), (3, _, _), (5, _, _), (132, _, _)] (Za rfl (Za rfl (Za rfl (Za rfl (Zd _))))) ?_
 refine Zh (hK25 _ _ ?_)
 refine Zz (Zb rfl) (fun h12 => ?_) (fun h12 => ?_)
 ·replace h12 := of_decide_eq_true h12
  obtain ⟨hl, he0⟩ := sh35 h12 hx
  have hE0 := ih.e (by omega) he0 hok
  have hEs := ih.es (Wnb hl he0) hok
  have e := exT_35 h12 hl k
  rw [e] at hlen
  try simp only [Xec, Xfc, Xgc, Xhc, Xic, Xjc, tabsL, Xkc] at hlen
  refine Zg fun K26 hK26 => ?_
  refine Zf [3, 1, 2] ?_
  refine Zc rfl (fun _ => Zi (Zb rfl)) ?_
  refine Zx [_] rfl Yn Xa (Zp Zl (Yc)) rfl rfl ?_
  intro b135 w135 N135
  have x135_3 := N135.ne B3
  have l135 := newge N135 g.size
  have g := g.trans (PF.of_g (N135.g))
  replace B3 := B3.grow (N135.g)
  have hP := hP.grow (N135.g)
  have hk0 := hk0.grow (N135.g)
  try have hkid := hkid.grow (N135.g)
  have B135 := N135.blk
  refine Yd rfl (Zu Zw Yl (Zk (Zb rfl) (Zk (Zb rfl) (Zn))) rfl) (Xd [[109, 97, 107, 101, 40, 91, 93, 105, 110, 116, 44, 32]] hP B135 (by omega) (by first | omega | (simp only [Xec, Xfc, Xgc, Xhc, Xic, Xjc, tabsL, Xkc]; omega) | (simp at hlen ⊢ <;> omega)) (by first | rfl | (simp [ht]; done) | (simpa using ht)) (Nat.le_of_ble_eq_true rfl)) ?_
  rintro v136 w136 ⟨rfl, hP, g136⟩
  refine ⟨fun h => absurd h (by decide), ?_⟩
  have g := g.trans g136
  replace B3 := B3.pf g136 rfl (by omega)
  replace B135 := B135.pf g136 rfl (by omega)
  have hk0 := hk0.pf g136 hD
  refine Zj [(0, _, _), (3, _, _)] (Za rfl (Za rfl (Zd _))) ?_
  refine Zh (hK26 _ _ ?_)
  refine Zg fun K27 hK27 => ?_
  refine Zf [3, 3, 0, 2] ?_
  refine Zc rfl (fun _ => Zi (Zb rfl)) ?_
  refine Zc rfl (fun _ => Zm Zv (Zb rfl)) ?_
  refine Ya rfl (Zt Zq (Zb rfl) (fun _ => B3.at_ rfl)) ?_
  refine Yd rfl (Zu Wq Yl (Zk (Zb rfl) (Zk (Zb rfl) (Zn))) rfl) (Uxa hEs hk0 hD hP (by first | omega | (simp only [Xec, Xfc, Xgc, Xhc, Xic, Xjc, tabsL, Xkc]; omega)) (by omega)) ?_
  rintro v140 w140 ⟨rfl, hP, g140⟩
  refine ⟨fun h => absurd h (by decide), ?_⟩
  have g := g.trans g140
  replace B3 := B3.pf g140 rfl (by omega)
  replace B135 := B135.pf g140 rfl (by omega)
  have hk0 := hk0.pf g140 hD
  refine Zj [(0, _, _)] (Za rfl (Zd _)) ?_
  refine Zh (hK27 _ _ ?_)
  refine Zf [3, 1, 2] ?_
  refine Zc rfl (fun _ => Zi (Zb rfl)) ?_
  refine Zx [_] rfl Yn Xa (Zp Zl (Yc)) rfl rfl ?_
  intro b142 w142 N142
  have x142_3 := N142.ne B3
  have x142_135 := N142.ne B135
  have l142 := newge N142 g.size
  have g := g.trans (PF.of_g (N142.g))
  replace B3 := B3.grow (N142.g)
  replace B135 := B135.grow (N142.g)
  have hP := hP.grow (N142.g)
  have hk0 := hk0.grow (N142.g)
  try have hkid := hkid.grow (N142.g)
  have B142 := N142.blk
  refine Yd rfl (Zu Zw Yl (Zk (Zb rfl) (Zk (Zb rfl) (Zn))) rfl) (Xd [[41]] hP B142 (by omega) (by first | omega | (simp only [Xec, Xfc, Xgc, Xhc, Xic, Xjc, tabsL, Xkc]; omega) | (simp at hlen ⊢ <;> omega)) (by first | rfl | (simp [ht]; done) | (simpa using ht)) (Nat.le_of_ble_eq_true rfl)) ?_
  rintro v143 w143 ⟨rfl, hP, g143⟩
  refine ⟨fun h => absurd h (by decide), ?_⟩
  have g := g.trans g143
  replace B3 := B3.pf g143 rfl (by omega)
  replace B135 := B135.pf g143 rfl (by omega)
  replace B142 := B142.pf g143 rfl (by omega)
  have hk0 := hk0.pf g143 hD
  refine Zj [] (Zd _) ?_
  refine Zh (Xs rfl ?_)
  refine ⟨rfl, ?_, g⟩
  rw [e]; simpa only [List.append_assoc, List.flatten_cons, List.flatten_nil, List.append_nil] using hP
 (try simp only [bsimp] at h12)
 refine Zg fun K28 hK28 => ?_
 refine Zf [3, 3] ?_
 refine Zc rfl (fun _ => Yg (Zb rfl) Zl) ?_
 refine Zc rfl (fun _ => Ze (Zb rfl)) ?_
 refine Zj [(0, _, _), (3, _, _), (5, _, _), (144, _, _)] (Za rfl (Za rfl (Za rfl (Za rfl (Zd _))))) ?_
 refine Zh (hK28 _ _ ?_)
 refine Zz (Zb rfl) (fun h13 => ?_) (fun h13 => ?_)
 ·replace h13 := of_decide_eq_true h13
  obtain ⟨hl, he0⟩ := sh36 h13 hx
  have hE0 := ih.e (by omega) he0 hok
  have hEs := ih.es (Wnb hl he0) hok
  have e := exT_36 h13 hl k
  rw [e] at hlen
  try simp only [Xec, Xfc, Xgc, Xhc, Xic, Xjc, tabsL, Xkc] at hlen
  refine Zg fun K29 hK29 => ?_
  refine Zf [3, 1, 2] ?_
  refine Zc rfl (fun _ => Zi (Zb rfl)) ?_
  refine Zx [_] rfl Yn Xa (Zp Zl (Yc)) rfl rfl ?_
  intro b147 w147 N147
  have x147_3 := N147.ne B3
  have l147 := newge N147 g.size
  have g := g.trans (PF.of_g (N147.g))
  replace B3 := B3.grow (N147.g)
  have hP := hP.grow (N147.g)
  have hk0 := hk0.grow (N147.g)
  try have hkid := hkid.grow (N147.g)
  have B147 := N147.blk
  refine Yd rfl (Zu Zw Yl (Zk (Zb rfl) (Zk (Zb rfl) (Zn))) rfl) (Xd [[109, 97, 107, 101, 40, 99, 104, 97, 110, 32, 105, 110, 116, 44, 32]] hP B147 (by omega) (by first | omega | (simp only [Xec, Xfc, Xgc, Xhc, Xic, Xjc, tabsL, Xkc]; omega) | (simp at hlen ⊢ <;> omega)) (by first | rfl | (simp [ht]; done) | (simpa using ht)) (Nat.le_of_ble_eq_true rfl)) ?_
  rintro v148 w148 ⟨rfl, hP, g148⟩
  refine ⟨fun h => absurd h (by decide), ?_⟩
  have g := g.trans g148
  replace B3 := B3.pf g148 rfl (by omega)
  replace B147 := B147.pf g148 rfl (by omega)
  have hk0 := hk0.pf g148 hD
  refine Zj [(0, _, _), (3, _, _)] (Za rfl (Za rfl (Zd _))) ?_
  refine Zh (hK29 _ _ ?_)
  refine Zg fun K30 hK30 => ?_
  refine Zf [3, 3, 0, 2] ?_
  refine Zc rfl (fun _ => Zi (Zb rfl)) ?_
  refine Zc rfl (fun _ => Zm Zv (Zb rfl)) ?_
  refine Ya rfl (Zt Zq (Zb rfl) (fun _ => B3.at_ rfl)) ?_
  refine Yd rfl (Zu Wq Yl (Zk (Zb rfl) (Zk (Zb rfl) (Zn))) rfl) (Uxa hEs hk0 hD hP (by first | omega | (simp only [Xec, Xfc, Xgc, Xhc, Xic, Xjc, tabsL, Xkc]; omega)) (by omega)) ?_
  rintro v152 w152 ⟨rfl, hP, g152⟩
  refine ⟨fun h => absurd h (by decide), ?_⟩
  have g := g.trans g152
  replace B3 := B3.pf g152 rfl (by omega)
  replace B147 := B147.pf g152 rfl (by omega)
  have hk0 := hk0.pf g152 hD
  refine Zj [(0, _, _)] (Za rfl (Zd _)) ?_
  refine Zh (hK30 _ _ ?_)
  refine Zf [3, 1, 2] ?_
  refine Zc rfl (fun _ => Zi (Zb rfl)) ?_
  refine Zx [_] rfl Yn Xa (Zp Zl (Yc)) rfl rfl ?_
  intro b154 w154 N154
  have x154_3 := N154.ne B3
  have x154_147 := N154.ne B147
  have l154 := newge N154 g.size
  have g := g.trans (PF.of_g (N154.g))
  replace B3 := B3.grow (N154.g)
  replace B147 := B147.grow (N154.g)
  have hP := hP.grow (N154.g)
  have hk0 := hk0.grow (N154.g)
  try have hkid := hkid.grow (N154.g)
  have B154 := N154.blk
  refine Yd rfl (Zu Zw Yl (Zk (Zb rfl) (Zk (Zb rfl) (Zn))) rfl) (Xd [[41]] hP B154 (by omega) (by first | omega | (simp only [Xec, Xfc, Xgc, Xhc, Xic, Xjc, tabsL, Xkc]; omega) | (simp at hlen ⊢ <;> omega)) (by first | rfl | (simp [ht]; done) | (simpa using ht)) (Nat.le_of_ble_eq_true rfl)) ?_
  rintro v155 w155 ⟨rfl, hP, g155⟩
  refine ⟨fun h => absurd h (by decide), ?_⟩
  have g := g.trans g155
  replace B3 := B3.pf g155 rfl (by omega)
  replace B147 := B147.pf g155 rfl (by omega)
  replace B154 := B154.pf g155 rfl (by omega)
  have hk0 := hk0.pf g155 hD
  refine Zj [] (Zd _) ?_
  refine Zh (Xs rfl ?_)
  refine ⟨rfl, ?_, g⟩
  rw [e]; simpa only [List.append_assoc, List.flatten_cons, List.flatten_nil, List.append_nil] using hP
 (try simp only [bsimp] at h13)
 refine Zg fun K31 hK31 => ?_
 refine Zf [3, 3] ?_
 refine Zc rfl (fun _ => Yg (Zb rfl) Zl) ?_
 refine Zc rfl (fun _ => Ze (Zb rfl)) ?_
 refine Zj [(0, _, _), (3, _, _), (5, _, _), (156, _, _)] (Za rfl (Za rfl (Za rfl (Za rfl (Zd _))))) ?_
 refine Zh (hK31 _ _ ?_)
 refine Zz (Zb rfl) (fun h14 => ?_) (fun h14 => ?_)
 ·replace h14 := of_decide_eq_true h14
  obtain ⟨hl, he0⟩ := sh37 h14 hx
  have hE0 := ih.e (by omega) he0 hok
  have hEs := ih.es (Wnb hl he0) hok
  have e := exT_37 h14 hl k
  rw [e] at hlen
  try simp only [Xec, Xfc, Xgc, Xhc, Xic, Xjc, tabsL, Xkc] at hlen
  refine Zg fun K32 hK32 => ?_
  refine Zf [3, 1, 2] ?_
  refine Zc rfl (fun _ => Zi (Zb rfl)) ?_
  refine Zx [_] rfl Yn Xa (Zp Zl (Yc)) rfl rfl ?_
  intro b159 w159 N159
  have x159_3 := N159.ne B3
  have l159 := newge N159 g.size
  have g := g.trans (PF.of_g (N159.g))
  replace B3 := B3.grow (N159.g)
  have hP := hP.grow (N159.g)
  have hk0 := hk0.grow (N159.g)
  try have hkid := hkid.grow (N159.g)
  have B159 := N159.blk
  refine Yd rfl (Zu Zw Yl (Zk (Zb rfl) (Zk (Zb rfl) (Zn))) rfl) (Xd [[108, 101, 110, 40]] hP B159 (by omega) (by first | omega | (simp only [Xec, Xfc, Xgc, Xhc, Xic, Xjc, tabsL, Xkc]; omega) | (simp at hlen ⊢ <;> omega)) (by first | rfl | (simp [ht]; done) | (simpa using ht)) (Nat.le_of_ble_eq_true rfl)) ?_
  rintro v160 w160 ⟨rfl, hP, g160⟩
  refine ⟨fun h => absurd h (by decide), ?_⟩
  have g := g.trans g160
  replace B3 := B3.pf g160 rfl (by omega)
  replace B159 := B159.pf g160 rfl (by omega)
  have hk0 := hk0.pf g160 hD
  refine Zj [(0, _, _), (3, _, _)] (Za rfl (Za rfl (Zd _))) ?_
  refine Zh (hK32 _ _ ?_)
  refine Zg fun K33 hK33 => ?_
  refine Zf [3, 3, 0, 2] ?_
  refine Zc rfl (fun _ => Zi (Zb rfl)) ?_
  refine Zc rfl (fun _ => Zm Zv (Zb rfl)) ?_
  refine Ya rfl (Zt Zq (Zb rfl) (fun _ => B3.at_ rfl)) ?_
  refine Yd rfl (Zu Wq Yl (Zk (Zb rfl) (Zk (Zb rfl) (Zn))) rfl) (Uxa hEs hk0 hD hP (by first | omega | (simp only [Xec, Xfc, Xgc, Xhc, Xic, Xjc, tabsL, Xkc]; omega)) (by omega)) ?_
  rintro v164 w164 ⟨rfl, hP, g164⟩
  refine ⟨fun h => absurd h (by decide), ?_⟩
  have g := g.trans g164
  replace B3 := B3.pf g164 rfl (by omega)
  replace B159 := B159.pf g164 rfl (by omega)
  have hk0 := hk0.pf g164 hD
  refine Zj [(0, _, _)] (Za rfl (Zd _)) ?_
  refine Zh (hK33 _ _ ?_)
  refine Zf [3, 1, 2] ?_
  refine Zc rfl (fun _ => Zi (Zb rfl)) ?_
  refine Zx [_] rfl Yn Xa (Zp Zl (Yc)) rfl rfl ?_
  intro b166 w166 N166
  have x166_3 := N166.ne B3
  have x166_159 := N166.ne B159
  have l166 := newge N166 g.size
  have g := g.trans (PF.of_g (N166.g))
  replace B3 := B3.grow (N166.g)
  replace B159 := B159.grow (N166.g)
  have hP := hP.grow (N166.g)
  have hk0 := hk0.grow (N166.g)
  try have hkid := hkid.grow (N166.g)
  have B166 := N166.blk
  refine Yd rfl (Zu Zw Yl (Zk (Zb rfl) (Zk (Zb rfl) (Zn))) rfl) (Xd [[41]] hP B166 (by omega) (by first | omega | (simp only [Xec, Xfc, Xgc, Xhc, Xic, Xjc, tabsL, Xkc]; omega) | (simp at hlen ⊢ <;> omega)) (by first | rfl | (simp [ht]; done) | (simpa using ht)) (Nat.le_of_ble_eq_true rfl)) ?_
  rintro v167 w167 ⟨rfl, hP, g167⟩
  refine ⟨fun h => absurd h (by decide), ?_⟩
  have g := g.trans g167
  replace B3 := B3.pf g167 rfl (by omega)
  replace B159 := B159.pf g167 rfl (by omega)
  replace B166 := B166.pf g167 rfl (by omega)
  have hk0 := hk0.pf g167 hD
  refine Zj [] (Zd _) ?_
  refine Zh (Xs rfl ?_)
  refine ⟨rfl, ?_, g⟩
  rw [e]; simpa only [List.append_assoc, List.flatten_cons, List.flatten_nil, List.append_nil] using hP
 (try simp only [bsimp] at h14)
 refine Zg fun K34 hK34 => ?_
 refine Zf [3, 3] ?_
 refine Zc rfl (fun _ => Yg (Zb rfl) Zl) ?_
 refine Zc rfl (fun _ => Ze (Zb rfl)) ?_
 refine Zj [(0, _, _), (3, _, _), (168, _, _)] (Za rfl (Za rfl (Za rfl (Zd _)))) ?_
 refine Zh (hK34 _ _ ?_)
 refine Zz (Zb rfl) (fun h15 => ?_) (fun h15 => ?_)
 ·replace h15 := of_decide_eq_true h15
  obtain ⟨hl, hb0⟩ := sh38 h15 hx
  have hB0 := ih.b (by omega) hb0 hok
  have hc0 := Xf (t := t) (i := 0) (by omega)
  have e := exT_38 h15 hl k
  rw [e] at hlen
  try simp only [Xec, Xfc, Xgc, Xhc, Xic, Xjc, tabsL, Xkc] at hlen
  refine Zg fun K35 hK35 => ?_
  refine Zf [3, 1, 2] ?_
  refine Zc rfl (fun _ => Zi (Zb rfl)) ?_
  refine Zx [_] rfl Yn Xa (Zp Zl (Yc)) rfl rfl ?_
  intro b171 w171 N171
  have x171_3 := N171.ne B3
  have l171 := newge N171 g.size
  have g := g.trans (PF.of_g (N171.g))
  replace B3 := B3.grow (N171.g)
  have hP := hP.grow (N171.g)
  have hk0 := hk0.grow (N171.g)
  try have hkid := hkid.grow (N171.g)
  have B171 := N171.blk
  refine Yd rfl (Zu Zw Yl (Zk (Zb rfl) (Zk (Zb rfl) (Zn))) rfl) (Xd [[102, 117, 110, 99, 40, 41, 32]] hP B171 (by omega) (by first | omega | (simp only [Xec, Xfc, Xgc, Xhc, Xic, Xjc, tabsL, Xkc]; omega) | (simp at hlen ⊢ <;> omega)) (by first | rfl | (simp [ht]; done) | (simpa using ht)) (Nat.le_of_ble_eq_true rfl)) ?_
  rintro v172 w172 ⟨rfl, hP, g172⟩
  refine ⟨fun h => absurd h (by decide), ?_⟩
  have g := g.trans g172
  replace B3 := B3.pf g172 rfl (by omega)
  replace B171 := B171.pf g172 rfl (by omega)
  have hk0 := hk0.pf g172 hD
  refine Zj [(0, _, _), (3, _, _)] (Za rfl (Za rfl (Zd _))) ?_
  refine Zh (hK35 _ _ ?_)
  refine Zf [3, 3, 0, 3, 0, 2] ?_
  refine Zc rfl (fun _ => Zi (Zb rfl)) ?_
  refine Zc rfl (fun _ => Zm Zv (Zb rfl)) ?_
  refine Ya rfl (Zt Zq (Zb rfl) (fun _ => B3.at_ rfl)) ?_
  obtain ⟨hpe, p_176, c_176, hcell, hkid⟩ := Xw hk0 (i := 0) (by omega)
  refine Zc rfl (fun _ => Xc Zo (Zb rfl) Zl (fun _ => by omega) (fun _ => hpe)) ?_
  refine Ya rfl (Yb Zr (Zb rfl) rfl (fun _ => hcell)) ?_
  refine Yd rfl (Zu Wk Yl (Zk (Zb rfl) (Zk (Zb rfl) (Zn))) rfl) (hB0 _ _ D n0 b _ k _ hkid hD hP (by first | omega | (simp only [Xec, Xfc, Xgc, Xhc, Xic, Xjc, tabsL, Xkc]; omega)) (by omega)) ?_
  rintro v178 w178 ⟨rfl, hP, g178⟩
  refine ⟨fun h => absurd h (by decide), ?_⟩
  have g := g.trans g178
  replace B3 := B3.pf g178 rfl (by omega)
  replace B171 := B171.pf g178 rfl (by omega)
  have hk0 := hk0.pf g178 hD
  refine Zj [] (Zd _) ?_
  refine Zh (Xs rfl ?_)
  refine ⟨rfl, ?_, g⟩
  rw [e]; simpa only [List.append_assoc, List.flatten_cons, List.flatten_nil, List.append_nil] using hP
 (try simp only [bsimp] at h15)
 exfalso; have hks := exp_kinds hx; simp only [bsimp, decide_eq_false_iff_not] at h1 h2 h3 h4 h5 h6 h7 h8 h9 h10 h11 h12 h13 h14 h15; omega
end Go.Rk
namespace Go.Rk
open Go Go.RowKit
set_option linter.unusedVariables false
set_option maxHeartbeats 4000000 in
theorem simple_ok {t : Nd} (ih : PBel t) (hx : stmtB t = true) (hok : okNd t) (hkk : t.kind = 11 ∨ t.kind = 12 ∨ t.kind = 13 ∨ t.kind = 14 ∨ t.kind = 15 ∨ t.kind = 16 ∨ t.kind = 17 ∨ t.kind = 20 ∨ t.kind = 21) : PrOk Wza stT t := by
 intro p c D n0 b l k w hk0 hD hP hlen hc
 have g := PF.refl n0 b w
 have hbn := hP.ge
 have hcn : count t = 1 + (t.kids.map count).sum := Ww t
 refine Ym (m := 99) Xsa rfl rfl [(0, True, _), (1, True, _)] (Za rfl (Za rfl (Zd _))) ?_
 refine Zg fun K1 hK1 => ?_
 refine Zf [1] ?_
 refine Wd rfl (Zb rfl) rfl ?_
 intro b3 w3 N3
 have l3 := newge N3 g.size
 have g := g.trans (PF.of_g (N3.g))
 have hP := hP.grow (N3.g)
 have hk0 := hk0.grow (N3.g)
 try have hkid := hkid.grow (N3.g)
 have B3 := N3.blk
 refine Zj [(0, _, _), (3, _, _)] (Za rfl (Za rfl (Zd _))) ?_
 refine Zh (hK1 _ _ ?_)
 refine Zg fun K2 hK2 => ?_
 refine Zf [3, 0] ?_
 refine Zc rfl (fun _ => Zm Ys (Zb rfl)) ?_
 refine Ya rfl (Zt Yy (Zb rfl) (fun _ => B3.at_ rfl)) ?_
 refine Zj [(0, _, _), (3, _, _), (5, _, _)] (Za rfl (Za rfl (Za rfl (Zd _)))) ?_
 refine Zh (hK2 _ _ ?_)
 refine Yp ?_
 refine Zg fun K3 hK3 => ?_
 refine Zf [3, 3] ?_
 refine Zc rfl (fun _ => Yg (Zb rfl) Zl) ?_
 refine Zc rfl (fun _ => Ze (Zb rfl)) ?_
 refine Zj [(0, _, _), (3, _, _), (5, _, _), (6, _, _)] (Za rfl (Za rfl (Za rfl (Za rfl (Zd _))))) ?_
 refine Zh (hK3 _ _ ?_)
 refine Zz (Zb rfl) (fun h1 => ?_) (fun h1 => ?_)
 ·replace h1 := of_decide_eq_true h1
  obtain ⟨ht, hl, he0⟩ := sh11 h1 hx
  have hE0 := ih.e (by omega) he0 hok
  have hc0 := Xf (t := t) (i := 0) (by omega)
  have e := stT_11 h1 hl k
  rw [e] at hlen
  simp only [Xec, Xfc, Xgc, Xhc, Xic, Xjc, tabsL, Xkc] at hlen
  refine Zg fun K4 hK4 => ?_
  refine Zf [3, 3, 0, 1, 2] ?_
  refine Zc rfl (fun _ => Zi (Zb rfl)) ?_
  refine Zc rfl (fun _ => Zm Yw (Zb rfl)) ?_
  refine Ya rfl (Zt Yt (Zb rfl) (fun _ => B3.at_ rfl)) ?_
  refine Zx [_, _] rfl Yn Xa (Zp (Zb rfl) (Zp Zl (Yc))) rfl rfl ?_
  intro b11 w11 N11
  have x11_3 := N11.ne B3
  have l11 := newge N11 g.size
  have g := g.trans (PF.of_g (N11.g))
  replace B3 := B3.grow (N11.g)
  have hP := hP.grow (N11.g)
  have hk0 := hk0.grow (N11.g)
  try have hkid := hkid.grow (N11.g)
  have B11 := N11.blk
  refine Yd rfl (Zu Zw Yl (Zk (Zb rfl) (Zk (Zb rfl) (Zn))) rfl) (Xd [t.text, [32, 58, 61, 32]] hP B11 (by omega) (by first | omega | (simp only [Xec, Xfc, Xgc, Xhc, Xic, Xjc, tabsL, Xkc]; omega) | (simp at hlen ⊢ <;> omega)) (by first | rfl | (simp [ht]; done) | (simpa using ht)) (Nat.le_of_ble_eq_true rfl)) ?_
  rintro v12 w12 ⟨rfl, hP, g12⟩
  refine ⟨fun h => absurd h (by decide), ?_⟩
  have g := g.trans g12
  replace B3 := B3.pf g12 rfl (by omega)
  replace B11 := B11.pf g12 rfl (by omega)
  have hk0 := hk0.pf g12 hD
  refine Zj [(0, _, _), (3, _, _)] (Za rfl (Za rfl (Zd _))) ?_
  refine Zh (hK4 _ _ ?_)
  refine Zf [3, 3, 0, 3, 0, 2] ?_
  refine Zc rfl (fun _ => Zi (Zb rfl)) ?_
  refine Zc rfl (fun _ => Zm Zv (Zb rfl)) ?_
  refine Ya rfl (Zt Zq (Zb rfl) (fun _ => B3.at_ rfl)) ?_
  obtain ⟨hpe, p_16, c_16, hcell, hkid⟩ := Xw hk0 (i := 0) (by omega)
  refine Zc rfl (fun _ => Xc Zo (Zb rfl) Zl (fun _ => by omega) (fun _ => hpe)) ?_
  refine Ya rfl (Yb Zr (Zb rfl) rfl (fun _ => hcell)) ?_
  refine Yd rfl (Zu Xh Yl (Zk (Zb rfl) (Zk (Zb rfl) (Zn))) rfl) (hE0 _ _ D n0 b _ k _ hkid hD hP (by first | omega | (simp only [Xec, Xfc, Xgc, Xhc, Xic, Xjc, tabsL, Xkc]; omega)) (by omega)) ?_
  rintro v18 w18 ⟨rfl, hP, g18⟩
  refine ⟨fun h => absurd h (by decide), ?_⟩
  have g := g.trans g18
  replace B3 := B3.pf g18 rfl (by omega)
  replace B11 := B11.pf g18 rfl (by omega)
  have hk0 := hk0.pf g18 hD
  refine Zj [] (Zd _) ?_
  refine Zh (Xs rfl ?_)
  refine ⟨rfl, ?_, g⟩
  rw [e]; simpa only [List.append_assoc, List.flatten_cons, List.flatten_nil, List.append_nil] using hP
 (try simp only [bsimp] at h1)
 refine Zg fun K5 hK5 => ?_
 refine Zf [3, 3] ?_
 refine Zc rfl (fun _ => Yg (Zb rfl) Zl) ?_
 refine Zc rfl (fun _ => Ze (Zb rfl)) ?_
 refine Zj [(0, _, _), (3, _, _), (5, _, _), (19, _, _)] (Za rfl (Za rfl (Za rfl (Za rfl (Zd _))))) ?_
 refine Zh (hK5 _ _ ?_)
 refine Zz (Zb rfl) (fun h2 => ?_) (fun h2 => ?_)
 ·replace h2 := of_decide_eq_true h2
  obtain ⟨hl, he0, he1⟩ := sh12 h2 hx
  have hE0 := ih.e (by omega) he0 hok
  have hE1 := ih.e (by omega) he1 hok
  have e := stT_12 h2 hl k
  rw [e] at hlen
  simp only [Xec, Xfc, Xgc, Xhc, Xic, Xjc, tabsL, Xkc] at hlen
  refine Zf [3, 0, 2] ?_
  refine Zc rfl (fun _ => Zi (Zb rfl)) ?_
  refine Ya rfl (Yb Zr (Zb rfl) rfl (fun _ => B3.row)) ?_
  refine Yd rfl (Zu Zea Yl (Zk (Zb rfl) (Zk (Zb rfl) (Zk Zl (Zn)))) rfl) (pair_ok [32, 61, 32] (by simp) hl hE0 hE1 hk0 hD hP (by first | omega | (simp only [Xec, Xfc, Xgc, Xhc, Xic, Xjc, tabsL, Xkc]; omega)) hc) ?_
  rintro v23 w23 ⟨rfl, hP, g23⟩
  refine ⟨fun h => absurd h (by decide), ?_⟩
  have g := g.trans g23
  replace B3 := B3.pf g23 rfl (by omega)
  have hk0 := hk0.pf g23 hD
  refine Zj [] (Zd _) ?_
  refine Zh (Xs rfl ?_)
  refine ⟨rfl, ?_, g⟩
  rw [e]; simpa only [List.append_assoc, List.flatten_cons, List.flatten_nil, List.append_nil] using hP
 (try simp only [bsimp] at h2)
 refine Zg fun K6 hK6 => ?_
 refine Zf [3, 3] ?_
 refine Zc rfl (fun _ => Yg (Zb rfl) Zl) ?_
 refine Zc rfl (fun _ => Ze (Zb rfl)) ?_
 refine Zj [(0, _, _), (3, _, _), (5, _, _), (24, _, _)] (Za rfl (Za rfl (Za rfl (Za rfl (Zd _))))) ?_
 refine Zh (hK6 _ _ ?_)
 refine Zz (Zb rfl) (fun h3 => ?_) (fun h3 => ?_)
 ·replace h3 := of_decide_eq_true h3
  obtain ⟨hl, he0, he1⟩ := sh16 h3 hx
  have hE0 := ih.e (by omega) he0 hok
  have hE1 := ih.e (by omega) he1 hok
  have e := stT_16 h3 hl k
  rw [e] at hlen
  simp only [Xec, Xfc, Xgc, Xhc, Xic, Xjc, tabsL, Xkc] at hlen
  refine Zf [3, 0, 2] ?_
  refine Zc rfl (fun _ => Zi (Zb rfl)) ?_
  refine Ya rfl (Yb Zr (Zb rfl) rfl (fun _ => B3.row)) ?_
  refine Yd rfl (Zu Zea Yl (Zk (Zb rfl) (Zk (Zb rfl) (Zk Zl (Zn)))) rfl) (pair_ok [32, 60, 45, 32] (by simp) hl hE0 hE1 hk0 hD hP (by first | omega | (simp only [Xec, Xfc, Xgc, Xhc, Xic, Xjc, tabsL, Xkc]; omega)) hc) ?_
  rintro v28 w28 ⟨rfl, hP, g28⟩
  refine ⟨fun h => absurd h (by decide), ?_⟩
  have g := g.trans g28
  replace B3 := B3.pf g28 rfl (by omega)
  have hk0 := hk0.pf g28 hD
  refine Zj [] (Zd _) ?_
  refine Zh (Xs rfl ?_)
  refine ⟨rfl, ?_, g⟩
  rw [e]; simpa only [List.append_assoc, List.flatten_cons, List.flatten_nil, List.append_nil] using hP
 (try simp only [bsimp] at h3)
 refine Zg fun K7 hK7 => ?_
 refine Zf [3, 3] ?_
 refine Zc rfl (fun _ => Yg (Zb rfl) Zl) ?_
 refine Zc rfl (fun _ => Ze (Zb rfl)) ?_
 refine Zj [(0, _, _), (3, _, _), (5, _, _), (29, _, _)] (Za rfl (Za rfl (Za rfl (Za rfl (Zd _))))) ?_
 refine Zh (hK7 _ _ ?_)
 refine Zz (Zb rfl) (fun h4 => ?_) (fun h4 => ?_)
 ·replace h4 := of_decide_eq_true h4
  obtain ⟨hl, he0⟩ := sh13 h4 hx
  have hE0 := ih.e (by omega) he0 hok
  have hc0 := Xf (t := t) (i := 0) (by omega)
  have e := stT_13 h4 hl k
  rw [e] at hlen
  refine Zf [3, 3, 0, 3, 0, 2] ?_
  refine Zc rfl (fun _ => Zi (Zb rfl)) ?_
  refine Zc rfl (fun _ => Zm Zv (Zb rfl)) ?_
  refine Ya rfl (Zt Zq (Zb rfl) (fun _ => B3.at_ rfl)) ?_
  obtain ⟨hpe, p_34, c_34, hcell, hkid⟩ := Xw hk0 (i := 0) (by omega)
  refine Zc rfl (fun _ => Xc Zo (Zb rfl) Zl (fun _ => by omega) (fun _ => hpe)) ?_
  refine Ya rfl (Yb Zr (Zb rfl) rfl (fun _ => hcell)) ?_
  refine Yd rfl (Zu Xh Yl (Zk (Zb rfl) (Zk (Zb rfl) (Zn))) rfl) (hE0 _ _ D n0 b _ k _ hkid hD hP (by first | omega | (simp only [Xec, Xfc, Xgc, Xhc, Xic, Xjc, tabsL, Xkc]; omega)) (by omega)) ?_
  rintro v36 w36 ⟨rfl, hP, g36⟩
  refine ⟨fun h => absurd h (by decide), ?_⟩
  have g := g.trans g36
  replace B3 := B3.pf g36 rfl (by omega)
  have hk0 := hk0.pf g36 hD
  refine Zj [] (Zd _) ?_
  refine Zh (Xs rfl ?_)
  refine ⟨rfl, ?_, g⟩
  rw [e]; simpa only [List.append_assoc, List.flatten_cons, List.flatten_nil, List.append_nil] using hP
 (try simp only [bsimp] at h4)
 refine Zg fun K8 hK8 => ?_
 refine Zf [3, 3] ?_
 refine Zc rfl (fun _ => Yg (Zb rfl) Zl) ?_
 refine Zc rfl (fun _ => Ze (Zb rfl)) ?_
 refine Zj [(0, _, _), (3, _, _), (5, _, _), (37, _, _)] (Za rfl (Za rfl (Za rfl (Za rfl (Zd _))))) ?_
 refine Zh (hK8 _ _ ?_)
 refine Zz (Zb rfl) (fun h5 => ?_) (fun h5 => ?_)
 ·replace h5 := of_decide_eq_true h5
  obtain ⟨hl, he0⟩ := sh14 h5 hx
  have hE0 := ih.e (by omega) he0 hok
  have hc0 := Xf (t := t) (i := 0) (by omega)
  have e := stT_14 h5 hl k
  rw [e] at hlen
  simp only [Xec, Xfc, Xgc, Xhc, Xic, Xjc, tabsL, Xkc] at hlen
  refine Zg fun K9 hK9 => ?_
  refine Zf [3, 1, 2] ?_
  refine Zc rfl (fun _ => Zi (Zb rfl)) ?_
  refine Zx [_] rfl Yn Xa (Zp Zl (Yc)) rfl rfl ?_
  intro b40 w40 N40
  have x40_3 := N40.ne B3
  have l40 := newge N40 g.size
  have g := g.trans (PF.of_g (N40.g))
  replace B3 := B3.grow (N40.g)
  have hP := hP.grow (N40.g)
  have hk0 := hk0.grow (N40.g)
  try have hkid := hkid.grow (N40.g)
  have B40 := N40.blk
  refine Yd rfl (Zu Zw Yl (Zk (Zb rfl) (Zk (Zb rfl) (Zn))) rfl) (Xd [[103, 111, 32]] hP B40 (by omega) (by first | omega | (simp only [Xec, Xfc, Xgc, Xhc, Xic, Xjc, tabsL, Xkc]; omega) | (simp at hlen ⊢ <;> omega)) (by first | rfl | (simp [ht]; done) | (simpa using ht)) (Nat.le_of_ble_eq_true rfl)) ?_
  rintro v41 w41 ⟨rfl, hP, g41⟩
  refine ⟨fun h => absurd h (by decide), ?_⟩
  have g := g.trans g41
  replace B3 := B3.pf g41 rfl (by omega)
  replace B40 := B40.pf g41 rfl (by omega)
  have hk0 := hk0.pf g41 hD
  refine Zj [(0, _, _), (3, _, _)] (Za rfl (Za rfl (Zd _))) ?_
  refine Zh (hK9 _ _ ?_)
  refine Zf [3, 3, 0, 3, 0, 2] ?_
  refine Zc rfl (fun _ => Zi (Zb rfl)) ?_
  refine Zc rfl (fun _ => Zm Zv (Zb rfl)) ?_
  refine Ya rfl (Zt Zq (Zb rfl) (fun _ => B3.at_ rfl)) ?_
  obtain ⟨hpe, p_45, c_45, hcell, hkid⟩ := Xw hk0 (i := 0) (by omega)
  refine Zc rfl (fun _ => Xc Zo (Zb rfl) Zl (fun _ => by omega) (fun _ => hpe)) ?_
  refine Ya rfl (Yb Zr (Zb rfl) rfl (fun _ => hcell)) ?_
  refine Yd rfl (Zu Xh Yl (Zk (Zb rfl) (Zk (Zb rfl) (Zn))) rfl) (hE0 _ _ D n0 b _ k _ hkid hD hP (by first | omega | (simp only [Xec, Xfc, Xgc, Xhc, Xic, Xjc, tabsL, Xkc]; omega)) (by omega)) ?_
  rintro v47 w47 ⟨rfl, hP, g47⟩
  refine ⟨fun h => absurd h (by decide), ?_⟩
  have g := g.trans g47
  replace B3 := B3.pf g47 rfl (by omega)
  replace B40 := B40.pf g47 rfl (by omega)
  have hk0 := hk0.pf g47 hD
  refine Zj [] (Zd _) ?_
  refine Zh (Xs rfl ?_)
  refine ⟨rfl, ?_, g⟩
  rw [e]; simpa only [List.append_assoc, List.flatten_cons, List.flatten_nil, List.append_nil] using hP
 (try simp only [bsimp] at h5)
 refine Zg fun K10 hK10 => ?_
 refine Zf [3, 3] ?_
 refine Zc rfl (fun _ => Yg (Zb rfl) Zl) ?_
 refine Zc rfl (fun _ => Ze (Zb rfl)) ?_
 refine Zj [(0, _, _), (3, _, _), (5, _, _), (48, _, _)] (Za rfl (Za rfl (Za rfl (Za rfl (Zd _))))) ?_
 refine Zh (hK10 _ _ ?_)
 refine Zz (Zb rfl) (fun h6 => ?_) (fun h6 => ?_)
 ·replace h6 := of_decide_eq_true h6
  obtain ⟨hl, he0⟩ := sh15 h6 hx
  have hE0 := ih.e (by omega) he0 hok
  have hc0 := Xf (t := t) (i := 0) (by omega)
  have e := stT_15 h6 hl k
  rw [e] at hlen
  simp only [Xec, Xfc, Xgc, Xhc, Xic, Xjc, tabsL, Xkc] at hlen
  refine Zg fun K11 hK11 => ?_
  refine Zf [3, 1, 2] ?_
  refine Zc rfl (fun _ => Zi (Zb rfl)) ?_
  refine Zx [_] rfl Yn Xa (Zp Zl (Yc)) rfl rfl ?_
  intro b51 w51 N51
  have x51_3 := N51.ne B3
  have l51 := newge N51 g.size
  have g := g.trans (PF.of_g (N51.g))
  replace B3 := B3.grow (N51.g)
  have hP := hP.grow (N51.g)
  have hk0 := hk0.grow (N51.g)
  try have hkid := hkid.grow (N51.g)
  have B51 := N51.blk
  refine Yd rfl (Zu Zw Yl (Zk (Zb rfl) (Zk (Zb rfl) (Zn))) rfl) (Xd [[100, 101, 102, 101, 114, 32]] hP B51 (by omega) (by first | omega | (simp only [Xec, Xfc, Xgc, Xhc, Xic, Xjc, tabsL, Xkc]; omega) | (simp at hlen ⊢ <;> omega)) (by first | rfl | (simp [ht]; done) | (simpa using ht)) (Nat.le_of_ble_eq_true rfl)) ?_
  rintro v52 w52 ⟨rfl, hP, g52⟩
  refine ⟨fun h => absurd h (by decide), ?_⟩
  have g := g.trans g52
  replace B3 := B3.pf g52 rfl (by omega)
  replace B51 := B51.pf g52 rfl (by omega)
  have hk0 := hk0.pf g52 hD
  refine Zj [(0, _, _), (3, _, _)] (Za rfl (Za rfl (Zd _))) ?_
  refine Zh (hK11 _ _ ?_)
  refine Zf [3, 3, 0, 3, 0, 2] ?_
  refine Zc rfl (fun _ => Zi (Zb rfl)) ?_
  refine Zc rfl (fun _ => Zm Zv (Zb rfl)) ?_
  refine Ya rfl (Zt Zq (Zb rfl) (fun _ => B3.at_ rfl)) ?_
  obtain ⟨hpe, p_56, c_56, hcell, hkid⟩ := Xw hk0 (i := 0) (by omega)
  refine Zc rfl (fun _ => Xc Zo (Zb rfl) Zl (fun _ => by omega) (fun _ => hpe)) ?_
  refine Ya rfl (Yb Zr (Zb rfl) rfl (fun _ => hcell)) ?_
  refine Yd rfl (Zu Xh Yl (Zk (Zb rfl) (Zk (Zb rfl) (Zn))) rfl) (hE0 _ _ D n0 b _ k _ hkid hD hP (by first | omega | (simp only [Xec, Xfc, Xgc, Xhc, Xic, Xjc, tabsL, Xkc]; omega)) (by omega)) ?_
  rintro v58 w58 ⟨rfl, hP, g58⟩
  refine ⟨fun h => absurd h (by decide), ?_⟩
  have g := g.trans g58
  replace B3 := B3.pf g58 rfl (by omega)
  replace B51 := B51.pf g58 rfl (by omega)
  have hk0 := hk0.pf g58 hD
  refine Zj [] (Zd _) ?_
  refine Zh (Xs rfl ?_)
  refine ⟨rfl, ?_, g⟩
  rw [e]; simpa only [List.append_assoc, List.flatten_cons, List.flatten_nil, List.append_nil] using hP
 (try simp only [bsimp] at h6)
 refine Zg fun K12 hK12 => ?_
 refine Zf [3, 3] ?_
 refine Zc rfl (fun _ => Yg (Zb rfl) Zl) ?_
 refine Zc rfl (fun _ => Ze (Zb rfl)) ?_
 refine Zj [(0, _, _), (3, _, _), (5, _, _), (59, _, _)] (Za rfl (Za rfl (Za rfl (Za rfl (Zd _))))) ?_
 refine Zh (hK12 _ _ ?_)
 refine Zz (Zb rfl) (fun h7 => ?_) (fun h7 => ?_)
 ·replace h7 := of_decide_eq_true h7
  obtain ⟨hl, he0⟩ := sh17 h7 hx
  have hEs := ih.es (Wnb hl he0) hok
  have e := stT_17 h7 hl k
  rw [e] at hlen
  simp only [Xec, Xfc, Xgc, Xhc, Xic, Xjc, tabsL, Xkc] at hlen
  refine Zg fun K13 hK13 => ?_
  refine Zf [3, 1, 2] ?_
  refine Zc rfl (fun _ => Zi (Zb rfl)) ?_
  refine Zx [_] rfl Yn Xa (Zp Zl (Yc)) rfl rfl ?_
  intro b62 w62 N62
  have x62_3 := N62.ne B3
  have l62 := newge N62 g.size
  have g := g.trans (PF.of_g (N62.g))
  replace B3 := B3.grow (N62.g)
  have hP := hP.grow (N62.g)
  have hk0 := hk0.grow (N62.g)
  try have hkid := hkid.grow (N62.g)
  have B62 := N62.blk
  refine Yd rfl (Zu Zw Yl (Zk (Zb rfl) (Zk (Zb rfl) (Zn))) rfl) (Xd [[99, 108, 111, 115, 101, 40]] hP B62 (by omega) (by first | omega | (simp only [Xec, Xfc, Xgc, Xhc, Xic, Xjc, tabsL, Xkc]; omega) | (simp at hlen ⊢ <;> omega)) (by first | rfl | (simp [ht]; done) | (simpa using ht)) (Nat.le_of_ble_eq_true rfl)) ?_
  rintro v63 w63 ⟨rfl, hP, g63⟩
  refine ⟨fun h => absurd h (by decide), ?_⟩
  have g := g.trans g63
  replace B3 := B3.pf g63 rfl (by omega)
  replace B62 := B62.pf g63 rfl (by omega)
  have hk0 := hk0.pf g63 hD
  refine Zj [(0, _, _), (3, _, _)] (Za rfl (Za rfl (Zd _))) ?_
  refine Zh (hK13 _ _ ?_)
  refine Zg fun K14 hK14 => ?_
  refine Zf [3, 3, 0, 2] ?_
  refine Zc rfl (fun _ => Zi (Zb rfl)) ?_
  refine Zc rfl (fun _ => Zm Zv (Zb rfl)) ?_
  refine Ya rfl (Zt Zq (Zb rfl) (fun _ => B3.at_ rfl)) ?_
  refine Yd rfl (Zu Wq Yl (Zk (Zb rfl) (Zk (Zb rfl) (Zn))) rfl) (Uxa hEs hk0 hD hP (by first | omega | (simp only [Xec, Xfc, Xgc, Xhc, Xic, Xjc, tabsL, Xkc]; omega)) (by omega)) ?_
  rintro v67 w67 ⟨rfl, hP, g67⟩
  refine ⟨fun h => absurd h (by decide), ?_⟩
  have g := g.trans g67
  replace B3 := B3.pf g67 rfl (by omega)
  replace B62 := B62.pf g67 rfl (by omega)
  have hk0 := hk0.pf g67 hD
  refine Zj [(0, _, _)] (Za rfl (Zd _)) ?_
  refine Zh (hK14 _ _ ?_)
  refine Zf [3, 1, 2] ?_
  refine Zc rfl (fun _ => Zi (Zb rfl)) ?_
  refine Zx [_] rfl Yn Xa (Zp Zl (Yc)) rfl rfl ?_
  intro b69 w69 N69
  have x69_3 := N69.ne B3
  have x69_62 := N69.ne B62
  have l69 := newge N69 g.size
  have g := g.trans (PF.of_g (N69.g))
  replace B3 := B3.grow (N69.g)
  replace B62 := B62.grow (N69.g)
  have hP := hP.grow (N69.g)
  have hk0 := hk0.grow (N69.g)
  try have hkid := hkid.grow (N69.g)
  have B69 := N69.blk
  refine Yd rfl (Zu Zw Yl (Zk (Zb rfl) (Zk (Zb rfl) (Zn))) rfl) (Xd [[41]] hP B69 (by omega) (by first | omega | (simp only [Xec, Xfc, Xgc, Xhc, Xic, Xjc, tabsL, Xkc]; omega) | (simp at hlen ⊢ <;> omega)) (by first | rfl | (simp [ht]; done) | (simpa using ht)) (Nat.le_of_ble_eq_true rfl)) ?_
  rintro v70 w70 ⟨rfl, hP, g70⟩
  refine ⟨fun h => absurd h (by decide), ?_⟩
  have g := g.trans g70
  replace B3 := B3.pf g70 rfl (by omega)
  replace B62 := B62.pf g70 rfl (by omega)
  replace B69 := B69.pf g70 rfl (by omega)
  have hk0 := hk0.pf g70 hD
  refine Zj [] (Zd _) ?_
  refine Zh (Xs rfl ?_)
  refine ⟨rfl, ?_, g⟩
  rw [e]; simpa only [List.append_assoc, List.flatten_cons, List.flatten_nil, List.append_nil] using hP
 (try simp only [bsimp] at h7)
 refine Zg fun K15 hK15 => ?_
 refine Zf [3, 3] ?_
 refine Zc rfl (fun _ => Yg (Zb rfl) Zl) ?_
 refine Zc rfl (fun _ => Ze (Zb rfl)) ?_
 refine Zj [(0, _, _), (3, _, _), (5, _, _), (71, _, _)] (Za rfl (Za rfl (Za rfl (Za rfl (Zd _))))) ?_
 refine Zh (hK15 _ _ ?_)
 refine Zz (Zb rfl) (fun h8 => ?_) (fun h8 => ?_)
 ·replace h8 := of_decide_eq_true h8
  obtain ⟨hl, he0⟩ := sh21 h8 hx
  have hEs := ih.es (Wnb hl he0) hok
  have e := stT_21 h8 hl k
  rw [e] at hlen
  simp only [Xec, Xfc, Xgc, Xhc, Xic, Xjc, tabsL, Xkc] at hlen
  refine Zg fun K16 hK16 => ?_
  refine Zf [3, 1, 2] ?_
  refine Zc rfl (fun _ => Zi (Zb rfl)) ?_
  refine Zx [_] rfl Yn Xa (Zp Zl (Yc)) rfl rfl ?_
  intro b74 w74 N74
  have x74_3 := N74.ne B3
  have l74 := newge N74 g.size
  have g := g.trans (PF.of_g (N74.g))
  replace B3 := B3.grow (N74.g)
  have hP := hP.grow (N74.g)
  have hk0 := hk0.grow (N74.g)
  try have hkid := hkid.grow (N74.g)
  have B74 := N74.blk
  refine Yd rfl (Zu Zw Yl (Zk (Zb rfl) (Zk (Zb rfl) (Zn))) rfl) (Xd [[112, 114, 105, 110, 116, 40]] hP B74 (by omega) (by first | omega | (simp only [Xec, Xfc, Xgc, Xhc, Xic, Xjc, tabsL, Xkc]; omega) | (simp at hlen ⊢ <;> omega)) (by first | rfl | (simp [ht]; done) | (simpa using ht)) (Nat.le_of_ble_eq_true rfl)) ?_
  rintro v75 w75 ⟨rfl, hP, g75⟩
  refine ⟨fun h => absurd h (by decide), ?_⟩
  have g := g.trans g75
  replace B3 := B3.pf g75 rfl (by omega)
  replace B74 := B74.pf g75 rfl (by omega)
  have hk0 := hk0.pf g75 hD
  refine Zj [(0, _, _), (3, _, _)] (Za rfl (Za rfl (Zd _))) ?_
  refine Zh (hK16 _ _ ?_)
  refine Zg fun K17 hK17 => ?_
  refine Zf [3, 3, 0, 2] ?_
  refine Zc rfl (fun _ => Zi (Zb rfl)) ?_
  refine Zc rfl (fun _ => Zm Zv (Zb rfl)) ?_
  refine Ya rfl (Zt Zq (Zb rfl) (fun _ => B3.at_ rfl)) ?_
  refine Yd rfl (Zu Wq Yl (Zk (Zb rfl) (Zk (Zb rfl) (Zn))) rfl) (Uxa hEs hk0 hD hP (by first | omega | (simp only [Xec, Xfc, Xgc, Xhc, Xic, Xjc, tabsL, Xkc]; omega)) (by omega)) ?_
  rintro v79 w79 ⟨rfl, hP, g79⟩
  refine ⟨fun h => absurd h (by decide), ?_⟩
  have g := g.trans g79
  replace B3 := B3.pf g79 rfl (by omega)
  replace B74 := B74.pf g79 rfl (by omega)
  have hk0 := hk0.pf g79 hD
  refine Zj [(0, _, _)] (Za rfl (Zd _)) ?_
  refine Zh (hK17 _ _ ?_)
  refine Zf [3, 1, 2] ?_
  refine Zc rfl (fun _ => Zi (Zb rfl)) ?_
  refine Zx [_] rfl Yn Xa (Zp Zl (Yc)) rfl rfl ?_
  intro b81 w81 N81
  have x81_3 := N81.ne B3
  have x81_74 := N81.ne B74
  have l81 := newge N81 g.size
  have g := g.trans (PF.of_g (N81.g))
  replace B3 := B3.grow (N81.g)
  replace B74 := B74.grow (N81.g)
  have hP := hP.grow (N81.g)
  have hk0 := hk0.grow (N81.g)
  try have hkid := hkid.grow (N81.g)
  have B81 := N81.blk
  refine Yd rfl (Zu Zw Yl (Zk (Zb rfl) (Zk (Zb rfl) (Zn))) rfl) (Xd [[41]] hP B81 (by omega) (by first | omega | (simp only [Xec, Xfc, Xgc, Xhc, Xic, Xjc, tabsL, Xkc]; omega) | (simp at hlen ⊢ <;> omega)) (by first | rfl | (simp [ht]; done) | (simpa using ht)) (Nat.le_of_ble_eq_true rfl)) ?_
  rintro v82 w82 ⟨rfl, hP, g82⟩
  refine ⟨fun h => absurd h (by decide), ?_⟩
  have g := g.trans g82
  replace B3 := B3.pf g82 rfl (by omega)
  replace B74 := B74.pf g82 rfl (by omega)
  replace B81 := B81.pf g82 rfl (by omega)
  have hk0 := hk0.pf g82 hD
  refine Zj [] (Zd _) ?_
  refine Zh (Xs rfl ?_)
  refine ⟨rfl, ?_, g⟩
  rw [e]; simpa only [List.append_assoc, List.flatten_cons, List.flatten_nil, List.append_nil] using hP
 (try simp only [bsimp] at h8)
 refine Zg fun K18 hK18 => ?_
 refine Zf [3, 3] ?_
 refine Zc rfl (fun _ => Yg (Zb rfl) Zl) ?_
 refine Zc rfl (fun _ => Ze (Zb rfl)) ?_
 refine Zj [(0, _, _), (3, _, _), (83, _, _)] (Za rfl (Za rfl (Za rfl (Zd _)))) ?_
 refine Zh (hK18 _ _ ?_)
 refine Zz (Zb rfl) (fun h9 => ?_) (fun h9 => ?_)
 ·replace h9 := of_decide_eq_true h9
  obtain ⟨hl, hes⟩ := sh20 h9 hx
  have hEs := ih.es hes hok
  have hlr : l.length + 6 < 100000000 := by
   rcases (by omega : t.kids.length = 0 ∨ t.kids.length = 1) with hz | hz
   ·rw [stT_20n h9 hz k] at hlen; simpa using hlen
   ·rw [stT_20 h9 hz k] at hlen; simp only [Xec, Xfc, Xgc, Xhc, Xic, Xjc, tabsL, Xkc] at hlen; omega
  refine Zg fun K19 hK19 => ?_
  refine Zf [3, 1, 2] ?_
  refine Zc rfl (fun _ => Zi (Zb rfl)) ?_
  refine Zx [_] rfl Yn Xa (Zp Zl (Yc)) rfl rfl ?_
  intro b86 w86 N86
  have x86_3 := N86.ne B3
  have l86 := newge N86 g.size
  have g := g.trans (PF.of_g (N86.g))
  replace B3 := B3.grow (N86.g)
  have hP := hP.grow (N86.g)
  have hk0 := hk0.grow (N86.g)
  try have hkid := hkid.grow (N86.g)
  have B86 := N86.blk
  refine Yd rfl (Zu Zw Yl (Zk (Zb rfl) (Zk (Zb rfl) (Zn))) rfl) (Xd [[114, 101, 116, 117, 114, 110]] hP B86 (by omega) (by first | omega | (simp only [Xec, Xfc, Xgc, Xhc, Xic, Xjc, tabsL, Xkc]; omega) | (simp at hlen ⊢ <;> omega)) (by first | rfl | (simp [ht]; done) | (simpa using ht)) (Nat.le_of_ble_eq_true rfl)) ?_
  rintro v87 w87 ⟨rfl, hP, g87⟩
  refine ⟨fun h => absurd h (by decide), ?_⟩
  have g := g.trans g87
  replace B3 := B3.pf g87 rfl (by omega)
  replace B86 := B86.pf g87 rfl (by omega)
  have hk0 := hk0.pf g87 hD
  refine Zj [(0, _, _), (3, _, _)] (Za rfl (Za rfl (Zd _))) ?_
  refine Zh (hK19 _ _ ?_)
  refine Zg fun K20 hK20 => ?_
  refine Zf [3, 0, 3, 3] ?_
  refine Zc rfl (fun _ => Zm Zv (Zb rfl)) ?_
  refine Ya rfl (Zt Zq (Zb rfl) (fun _ => B3.at_ rfl)) ?_
  refine Zc rfl (fun _ => Xx Zo (Zb rfl)) ?_
  refine Zc rfl (fun _ => Js (Zb rfl) Zl) ?_
  refine Zj [(0, _, _), (3, _, _), (91, _, _)] (Za rfl (Za rfl (Za rfl (Zd _)))) ?_
  refine Zh (hK20 _ _ ?_)
  refine Zz (Zb rfl) (fun h10 => ?_) (fun h10 => ?_)
  ·replace h10 : t.kids.length = 1 := by simp only [decide_eq_true_eq] at h10; omega
   have e := stT_20 h9 h10 k
   rw [e] at hlen
   simp only [Xec, Xfc, Xgc, Xhc, Xic, Xjc, tabsL, Xkc] at hlen
   refine Zg fun K21 hK21 => ?_
   refine Zf [3, 1, 2] ?_
   refine Zc rfl (fun _ => Zi (Zb rfl)) ?_
   refine Zx [_] rfl Yn Xa (Zp Zl (Yc)) rfl rfl ?_
   intro b93 w93 N93
   have x93_3 := N93.ne B3
   have x93_86 := N93.ne B86
   have l93 := newge N93 g.size
   have g := g.trans (PF.of_g (N93.g))
   replace B3 := B3.grow (N93.g)
   replace B86 := B86.grow (N93.g)
   have hP := hP.grow (N93.g)
   have hk0 := hk0.grow (N93.g)
   try have hkid := hkid.grow (N93.g)
   have B93 := N93.blk
   refine Yd rfl (Zu Zw Yl (Zk (Zb rfl) (Zk (Zb rfl) (Zn))) rfl) (Xd [[32]] hP B93 (by omega) (by first | omega | (simp only [Xec, Xfc, Xgc, Xhc, Xic, Xjc, tabsL, Xkc]; omega) | (simp at hlen ⊢ <;> omega)) (by first | rfl | (simp [ht]; done) | (simpa using ht)) (Nat.le_of_ble_eq_true rfl)) ?_
   rintro v94 w94 ⟨rfl, hP, g94⟩
   refine ⟨fun h => absurd h (by decide), ?_⟩
   have g := g.trans g94
   replace B3 := B3.pf g94 rfl (by omega)
   replace B86 := B86.pf g94 rfl (by omega)
   replace B93 := B93.pf g94 rfl (by omega)
   have hk0 := hk0.pf g94 hD
   refine Zj [(0, _, _), (3, _, _)] (Za rfl (Za rfl (Zd _))) ?_
   refine Zh (hK21 _ _ ?_)
   refine Zf [3, 3, 0, 2] ?_
   refine Zc rfl (fun _ => Zi (Zb rfl)) ?_
   refine Zc rfl (fun _ => Zm Zv (Zb rfl)) ?_
   refine Ya rfl (Zt Zq (Zb rfl) (fun _ => B3.at_ rfl)) ?_
   refine Yd rfl (Zu Wq Yl (Zk (Zb rfl) (Zk (Zb rfl) (Zn))) rfl) (Uxa hEs hk0 hD hP (by first | omega | (simp only [Xec, Xfc, Xgc, Xhc, Xic, Xjc, tabsL, Xkc]; omega)) (by omega)) ?_
   rintro v98 w98 ⟨rfl, hP, g98⟩
   refine ⟨fun h => absurd h (by decide), ?_⟩
   have g := g.trans g98
   replace B3 := B3.pf g98 rfl (by omega)
   replace B86 := B86.pf g98 rfl (by omega)
   replace B93 := B93.pf g98 rfl (by omega)
   have hk0 := hk0.pf g98 hD
   refine Zj [] (Zd _) ?_
   refine Zh (Xs rfl ?_)
   refine ⟨rfl, ?_, g⟩
   rw [e]; simpa only [List.append_assoc, List.flatten_cons, List.flatten_nil, List.append_nil] using hP
  replace h10 : t.kids.length = 0 := by simp only [decide_eq_false_iff_not] at h10; omega
  have e := stT_20n h9 h10 k
  refine Yq (Xs rfl ?_)
  refine ⟨rfl, ?_, g⟩
  rw [e]; simpa only [List.append_assoc, List.flatten_cons, List.flatten_nil, List.append_nil] using hP
 (try simp only [bsimp] at h9)
 exfalso; simp only [bsimp, decide_eq_false_iff_not] at h1 h2 h3 h4 h5 h6 h7 h8 h9; omega
end Go.Rk
