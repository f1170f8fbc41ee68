/- Merged texts of one road: Wlk, Byt, BldP, Txt, Prn, Prw, Shp, Pre, Prx, LayM. Conditions: each text's own. -/
import Derived.Test.YteicjpedahoilaaGreatDoorE04
import Derived.Test.YteicjpedahoilaaGreatDoorE08
import Derived.Test.YteicjpedahoilaaGreatDoorE05
import Derived.Test.YteicjpedahoilaaGreatDoorE03
import Derived.Laws.MakeOwn
import Derived.Laws.BytesString
import Derived.Lib.ConvBytes
import Derived.Lib.AtoiErrMem
import Derived.Laws.OwnMore
import Derived.Lib.ItoaNum
import Derived.Lib.AppendIntMem
import Derived.Shelf.LaysM
import Derived.Test.YteicjpedahoilaaGreatDoorE02
set_option linter.unusedSimpArgs false
set_option linter.unusedVariables false
namespace Go.Rk
open Go Go.RowKit
set_option linter.unusedVariables false
mutual
theorem krow_gi {w w' : World} {n : Nat} {D : Nat → Prop} (g : GI n w w') : ∀ (ks : List Nd) (xs : List Value), KRow w D ks xs → KRow w' D ks xs
 | [], xs, h => h
 | t :: ts, xs, h => by
  obtain ⟨v, r, rfl, h1, h⟩ := h
  exact ⟨v, r, rfl, knd_gi g t v h1, krow_gi g ts r h⟩
theorem knd_gi {w w' : World} {n : Nat} {D : Nat → Prop} (g : GI n w w') : ∀ (t : Nd) (v : Value), KNd w D t v → KNd w' D t v
 | .mk k x n a ks y r u, v, h => by
  obtain ⟨p, c, rfl, hc, h⟩ := h
  refine ⟨p, c, rfl, hc, fun h0 => ?_⟩
  obtain ⟨b, o, rfl, hb, xs, hR, hX⟩ := h h0
  exact ⟨b, o, rfl, hb, xs, hR.gi g, krow_gi g ks xs hX⟩
end
theorem Kd.gi {w w' : World} {n : Nat} {D : Nat → Prop} {ks : List Nd} {v : Value} (h : Kd w D ks v) (g : GI n w w') : Kd w' D ks v := by
 have h0 : KNd w D (.mk 0 [] 0 0 ks ty0 0 0) v := by rw [Ysb]; exact h
 have := knd_gi g _ _ h0
 rw [Ysb] at this; exact this
theorem Kd.gb {w w' : World} {B D : Nat → Prop} {ks : List Nd} {v : Value} (h : Kd w D ks v) (g : GB B w w') (hB : ∀ b, D b → ¬ B b) : Kd w' D ks v := Xva h (fun _ h _ => h) fun b hb hlt => g.block b hlt (hB b hb)
def EnN (D : Nat → Prop) (x : Nd) (A : World) (args : Array Value) : Prop := ∃ p c, args = #[ndV x (.slice p x.kids.length c)] ∧ Kd A D x.kids (.slice p x.kids.length c)
theorem enN_one {D : Nat → Prop} {x : Nd} {A : World} {args : Array Value} (h : EnN D x A args) : ∃ v, args = #[v] := by obtain ⟨p, c, rfl, _⟩ := h; exact ⟨_, rfl⟩
theorem enN_gi {D : Nat → Prop} {x : Nd} {A C : World} {args : Array Value} {n : Nat} (h : EnN D x A args) (g : GI n A C) : EnN D x C args := by obtain ⟨p, c, rfl, k⟩ := h; exact ⟨p, c, rfl, k.gi g⟩
theorem yb {v : Value} {p q : Prop} (h : (v = .bool true ∧ p) ∨ (v = .bool false ∧ q)) : ∃ b, v = .bool b ∧ (b = true → p) ∧ (b = false → q) := by
 rcases h with ⟨e, h⟩ | ⟨e, h⟩
 ·exact ⟨true, e, fun _ => h, fun h => by cases h⟩
 ·exact ⟨false, e, (fun h => by cases h), fun _ => h⟩
theorem pre_head {t : Nd} {pre L : List Nd} (h : pre ++ listN t <+: L) : pre ++ [t] <+: L := by
 refine List.IsPrefix.trans ⟨t.kids.flatMap listN, ?_⟩ h
 rw [Wdb, List.append_assoc]; rfl
theorem pre_kid {t : Nd} {pre L : List Nd} (h : pre ++ listN t <+: L) {i : Nat} (hi : i < t.kids.length) : (pre ++ t :: (t.kids.take i).flatMap listN) ++ listN (kidAt t i) <+: L := by
 refine List.IsPrefix.trans ⟨(t.kids.drop (i + 1)).flatMap listN, ?_⟩ h
 have e : t.kids = t.kids.take i ++ t.kids[i] :: t.kids.drop (i + 1) := by simp
 have e2 : t.kids.flatMap listN = (t.kids.take i).flatMap listN ++ (listN t.kids[i] ++ (t.kids.drop (i + 1)).flatMap listN) := by
  conv => lhs; rw [e]
  rw [List.flatMap_append, List.flatMap_cons]
 rw [Xu hi, Wdb t, e2]
 simp only [List.append_assoc, List.cons_append]
section
variable {D B : Nat → Prop} {J Jx : List Nd → World → Prop} {L : List Nd} {l n0 c2 c3 : Nat}
theorem walk11_ok (hB : ∀ k, B k → k < n0 ∧ ¬ D k) (hD : ∀ k, D k → k < n0) (h2 : n0 ≤ c2) (h3 : n0 ≤ c3) (hJ : ∀ pre A C, J pre A → GI n0 A C → J pre C)
  (hY : ∀ pre x args A, J pre A → pre ++ [x] <+: L → EnN D x A args → Yld PP l args A fun b A' => GB B A A' ∧ ((b = .bool true ∧ J (pre ++ [x]) A') ∨ (b = .bool false ∧ Jx (pre ++ [x]) A'))) :
  ∀ (t : Nd) (v : Value) (pre : List Nd) (w : World), n0 ≤ w.heap.size → Blk w c2 Up [yldV l] → Blk w c3 Up [.func (.func Jp) #[] #[.pointer (some ⟨c2, 0, none⟩), .pointer (some ⟨c3, 0, none⟩)]] →
   Kd w D t.kids v → pre ++ listN t <+: L → J pre w → count t ≤ 1000000 →
   Ret PP Jp #[ndV t v, .pointer (some ⟨c2, 0, none⟩), .pointer (some ⟨c3, 0, none⟩)] w fun r w' => GB B w w' ∧ ((r = .bool true ∧ J (pre ++ listN t) w') ∨ (r = .bool false ∧ ∃ pre' x, pre' ++ [x] <+: L ∧ Jx (pre' ++ [x]) w')) := by
 refine Nd.ind fun t ih v pre w hn hc2 hc3 hk hpre hj hcn => ?_
 obtain ⟨p, c, rfl, hcap, hks⟩ := hk
 have hk0 : Kd w D t.kids (.slice p t.kids.length c) := ⟨p, c, rfl, hcap, hks⟩
 have g := GB.refl B w
 have hln := Qm t
 have hn0 := hn
 refine Uwa (m := 23) Qva rfl rfl [(0, True, _), (1, True, _), (2, True, _)] (Za rfl (Za rfl (Za rfl (Zd _)))) ?_
 refine Ws fun K1 hK1 => ?_
 refine Wo [1, 3] ?_
 refine Wd rfl (Zb rfl) rfl ?_
 intro b3 w3 N3
 have l3 := newge N3 g.size
 have g := g.trans (GB.of_g (N3.g))
 have hc2 := hc2.grow (N3.g)
 have hc3 := hc3.grow (N3.g)
 have hk0 := hk0.grow (N3.g)
 have hj := hJ _ _ _ hj (GI.of_g (N3.g) hn)
 have hn := Nat.le_trans hn (G.size (N3.g))
 have B3 := N3.blk
 refine Zc rfl (fun _ => Ze Zl) ?_
 refine Zj [(1, _, _), (2, _, _), (3, _, _), (4, _, _)] (Za rfl (Za rfl (Za rfl (Za rfl (Zd _))))) ?_
 refine Zh (hK1 _ _ _ ?_)
 refine Ws fun K2 hK2 => ?_
 refine Ws fun K3 hK3 => ?_
 refine Wo [0, 0, 2, 3] ?_
 refine Ya rfl (Zt Ql (Zb rfl) (fun _ => hc2.at_ rfl)) ?_
 refine Ya rfl (Yb Zr (Zb rfl) rfl (fun _ => B3.row)) ?_
 refine sr_yield rfl (Zb rfl) (Zk (Zb rfl) (Zn)) (hY pre t _ _ hj (pre_head hpre) ⟨_, _, rfl, hk0⟩) ?_
 rintro v9 w9 ⟨g9, hy9⟩
 refine ⟨fun h => absurd h (by decide), ?_⟩
 have g := g.trans g9
 replace B3 := B3.gb g9 (fun h => by have := (hB _ h).1; omega)
 obtain ⟨bb, rfl, hy1, hy2⟩ := yb hy9
 have hc2 := hc2.gb g9 (fun h => by have := (hB _ h).1; omega)
 have hc3 := hc3.gb g9 (fun h => by have := (hB _ h).1; omega)
 have hk0 := hk0.gb g9 (fun b hb h => (hB _ h).2 hb)
 have hn := Nat.le_trans hn g9.size
 clear hj
 refine Zc rfl (fun _ => Ub (Zb rfl)) ?_
 refine Zj [(2, _, _), (3, _, _), (4, _, _), (10, _, _)] (Za rfl (Za rfl (Za rfl (Za rfl (Zd _))))) ?_
 refine Zh (hK3 _ _ _ ?_)
 refine Uea (Zb rfl) (fun h1 => ?_) (fun h1 => ?_)
 ·replace h1 : bb = false := by simpa using h1
  refine Ws fun K4 hK4 => ?_
  refine Wo [3] ?_
  refine Zc rfl (fun _ => Ze Zl) ?_
  refine Zj [(2, _, _), (3, _, _), (4, _, _)] (Za rfl (Za rfl (Za rfl (Zd _)))) ?_
  refine Zh (hK4 _ _ _ ?_)
  refine Jgb (td_ret (Yj rfl rfl ?_))
  exact ⟨g, .inr ⟨rfl, pre, t, pre_head hpre, hy2 h1⟩⟩
 replace h1 : bb = true := by simpa using h1
 have hj := hy1 h1
 refine Xya (hK2 _ _ _ ?_)
 refine Yga [(2, _, _), (3, _, _), (4, _, _)] (Za rfl (Za rfl (Za rfl (Zd _)))) ?_
 refine Ws fun K5 hK5 => ?_
 refine Ws fun K6 hK6 => ?_
 refine Wo [3, 0, 3, 3] ?_
 refine Zc rfl (fun _ => Zm Zv (Zb rfl)) ?_
 refine Ya rfl (Zt Zq (Zb rfl) (fun _ => B3.at_ rfl)) ?_
 refine Zc rfl (fun _ => Xx Zo (Zb rfl)) ?_
 refine Zc rfl (fun _ => Zi Zl) ?_
 refine Zj [(2, _, _), (4, _, _), (12, _, _), (13, _, _), (14, _, _)] (Za rfl (Za rfl (Za rfl (Za rfl (Za rfl (Zd _)))))) ?_
 refine Zh (hK6 _ _ _ ?_)
 refine Zgb ?_
 refine scd_loop2 (fun (i : Nat) u1 => (i ≤ t.kids.length ∧ n0 ≤ u1.heap.size ∧ Blk u1 c2 Up [yldV l] ∧ Blk u1 c3 Up [.func (.func Jp) #[] #[.pointer (some ⟨c2, 0, none⟩), .pointer (some ⟨c3, 0, none⟩)]] ∧ Kd u1 D t.kids (.slice p t.kids.length c) ∧ J (pre ++ t :: (t.kids.take i).flatMap listN) u1) ∧ GB (B) w9 u1) [(2, True, _), (12, True, _), (13, True, _)] (fun (i : Nat) => [(14, True, .int .i64 i)]) (fun (i : Nat) => t.kids.length - i) (0) ⟨⟨Nat.zero_le _, hn, hc2, hc3, hk0, by simpa using hj⟩, GB.refl _ _⟩ (Za rfl (Za rfl (Za rfl (Za rfl (Zd _))))) ?_
 rintro i u1 ⟨hI1, gl1⟩
 have g := g.trans gl1
 clear hn hc2 hc3 hk0 hj
 obtain ⟨hi, hn, hc2, hc3, hk0, hj⟩ := hI1
 refine Ws fun K7 hK7 => ?_
 refine Wo [3] ?_
 refine Zc rfl (fun _ => Vh (Zb rfl) (Zb rfl)) ?_
 refine Zh (hK7 _ _ _ ?_)
 refine Yga [(2, _, _), (12, _, _), (13, _, _), (14, _, _), (15, _, _)] (Za rfl (Za rfl (Za rfl (Za rfl (Za rfl (Zd _)))))) ?_
 refine Ws fun K8 hK8 => ?_
 refine Uea (Zb rfl) (fun h2 => ?_) (fun h2 => ?_)
 ·replace h2 : i < t.kids.length := by simp only [decide_eq_true_eq] at h2; omega
  obtain ⟨hpe, p2, c4, hcell, hkid⟩ := Xw hk0 h2
  have hck := Ju h2
  rw [← Xu h2] at hck
  have hc2u := hc2; have hc3u := hc3; have hk0u := hk0; have hju := hj; have hnu := hn
  refine Xya (hK8 _ _ _ ?_)
  refine Yga [(2, _, _), (12, _, _), (13, _, _), (14, _, _)] (Za rfl (Za rfl (Za rfl (Za rfl (Zd _))))) ?_
  refine Ws fun K9 hK9 => ?_
  refine Zgb ?_
  refine Ws fun K10 hK10 => ?_
  refine Wo [3, 0, 1, 2] ?_
  refine Zc rfl (fun _ => Xc Zo (Zb rfl) (Zb rfl) (fun _ => by omega) (fun _ => hpe)) ?_
  refine Ya rfl (Yb Zr (Zb rfl) rfl (fun _ => hcell)) ?_
  refine Xr rfl Yo rfl ?_
  intro b6 w6 N6
  have l6 := newge N6 g.size
  try have l6_gl1 := newge N6 gl1.size
  have g := g.trans (GB.of_g (N6.g))
  try have gl1 := gl1.trans (GB.of_g (N6.g))
  have hc2 := hc2.grow (N6.g)
  have hc3 := hc3.grow (N6.g)
  have hk0 := hk0.grow (N6.g)
  have hj := hJ _ _ _ hj (GI.of_g (N6.g) hn)
  have hn := Nat.le_trans hn (G.size (N6.g))
  have B6 := N6.blk
  refine Yu rfl Xi (Zb rfl) (Zb rfl) rfl rfl B6 rfl rfl ?_
  intro wS1 hgS1 hzS1
  clear B6
  intro B6
  have g := gb_only g hgS1 (by first | exact .inl (by simp) | exact .inr (by omega))
  first | replace gl1 := gb_only gl1 hgS1 (by first | exact .inl (by simp) | exact .inr (by omega)) | clear gl1 | skip
  have gu := Xo N6.g hgS1 (by intro k hk; injection hk with hk; have := N6.at_; omega)
  have hc2 := hc2u.grow gu
  have hc3 := hc3u.grow gu
  have hk0 := hk0u.grow gu
  have hkid := hkid.grow gu
  have hj := hJ _ _ _ hju (GI.of_g gu hnu)
  have hn := Nat.le_trans hnu gu.size
  refine Zj [(2, _, _), (6, _, _), (12, _, _), (13, _, _), (14, _, _)] (Za rfl (Za rfl (Za rfl (Za rfl (Za rfl (Zd _)))))) ?_
  refine Zh (hK10 _ _ _ ?_)
  refine Ws fun K11 hK11 => ?_
  refine Wo [0, 0, 2, 3] ?_
  refine Ya rfl (Zt Ql (Zb rfl) (fun _ => hc3.at_ rfl)) ?_
  refine Ya rfl (Yb Zr (Zb rfl) rfl (fun _ => B6.row)) ?_
  refine Yd rfl (Zu Xpa (Zb rfl) (Zk (Zb rfl) (Zn)) rfl) (ih (kidAt t i) (by rw [Xu h2]; exact List.getElem_mem h2) _ _ _ hn hc2 hc3 hkid (pre_kid hpre h2) hj (by omega)) ?_
  rintro v20 w20 ⟨g20, hy20⟩
  refine ⟨fun h => absurd h (by decide), ?_⟩
  have g := g.trans g20
  have gl1 := gl1.trans g20
  obtain ⟨bb2, rfl, hy1, hy2⟩ := yb hy20
  have hc2 := hc2.gb g20 (fun h => by have := (hB _ h).1; omega)
  have hc3 := hc3.gb g20 (fun h => by have := (hB _ h).1; omega)
  have hk0 := hk0.gb g20 (fun b hb h => (hB _ h).2 hb)
  have hn := Nat.le_trans hn g20.size
  clear hj
  refine Zc rfl (fun _ => Ub (Zb rfl)) ?_
  refine Zj [(2, _, _), (12, _, _), (13, _, _), (14, _, _), (21, _, _)] (Za rfl (Za rfl (Za rfl (Za rfl (Za rfl (Zd _)))))) ?_
  refine Zh (hK11 _ _ _ ?_)
  refine Uea (Zb rfl) (fun h3 => ?_) (fun h3 => ?_)
  ·replace h3 : bb2 = false := by simpa using h3
   refine Ws fun K12 hK12 => ?_
   refine Wo [3] ?_
   refine Zc rfl (fun _ => Ze Zl) ?_
   refine Zj [(2, _, _), (4, _, _), (12, _, _), (13, _, _), (14, _, _)] (Za rfl (Za rfl (Za rfl (Za rfl (Za rfl (Zd _)))))) ?_
   refine Zh (hK12 _ _ _ ?_)
   refine Jgb (td_ret (Yj rfl rfl ?_))
   exact ⟨g, .inr ⟨rfl, hy2 h3⟩⟩
  replace h3 : bb2 = true := by simpa using h3
  have hj := hy1 h3
  refine Xya (hK9 _ _ _ ?_)
  refine Yga [(2, _, _), (12, _, _), (13, _, _), (14, _, _)] (Za rfl (Za rfl (Za rfl (Za rfl (Zd _))))) ?_
  refine Wo [3, 3] ?_
  refine Zc rfl (fun _ => Xq (Zb rfl) Zl (fun _ => by omega)) ?_
  refine Zc rfl (fun _ => Zi (Zb rfl)) ?_
  refine Zj [(14, _, _), (2, _, _), (12, _, _), (13, _, _)] (Za rfl (Za rfl (Za rfl (Za rfl (Zd _))))) ?_
  refine Zh (fun a ha => ?_)
  refine ⟨rfl, ?_⟩
  exact ⟨i + 1, ha, ⟨⟨h2, hn, hc2, hc3, hk0, by rw [Wfb h2]; simpa [Xu h2] using hj⟩, gl1⟩, by omega⟩
 replace h2 : i = t.kids.length := by simp only [decide_eq_false_iff_not] at h2; omega
 refine scd_exit rfl (hK5 _ _ _ ?_)
 refine Yga [] (Zd _) ?_
 refine Ws fun K13 hK13 => ?_
 refine Wo [3] ?_
 refine Zc rfl (fun _ => Ze Zl) ?_
 refine Zh (hK13 _ _ _ ?_)
 refine Jgb (td_ret (Yj rfl rfl ?_))
 refine ⟨g, .inl ⟨rfl, ?_⟩⟩
 rw [h2, List.take_length, ← Wdb] at hj; exact hj
end
theorem walk1_ok (t : Nd) (b : Nat) (v : Value) (D : Nat → Prop) (w : World) (hb : Blk w b Vy (ndCells t v)) (hk : Kd w D t.kids v) (hD : ∀ k, D k → k < w.heap.size) (hcn : count t ≤ 1000000) :
  IterOk PP Zua #[.pointer (some ⟨b, 0, none⟩)] w (fun k => D k ∨ k = b) (listN t) (EnN D) := by
 intro l J Jx B W gW hB hJ hJx hY hj
 have hBD : ∀ k, B k → k < W.heap.size ∧ ¬ D k := fun k hk => ⟨(hB k hk).1, fun h => (hB k hk).2 (.inl h)⟩
 have hDW : ∀ k, D k → k < W.heap.size := fun k hk => Nat.lt_of_lt_of_le (hD k hk) gW.size
 have hbW := hb.grow gW
 have hkW := hk.grow gW
 have g := G.refl W
 refine Uwa (m := 8) Ylb rfl rfl [(0, True, _), (1, True, _)] (Za rfl (Za rfl (Zd _))) ?_
 refine Ws fun K1 hK1 => ?_
 refine Wo [1] ?_
 refine Wd rfl (Zb rfl) rfl ?_
 intro b2 w2 N2
 have l2 := N2.ge g
 have g := g.trans (N2.g)
 have B2 := N2.blk
 refine Zj [(1, _, _), (2, _, _)] (Za rfl (Za rfl (Zd _))) ?_
 refine Zh (hK1 _ _ _ ?_)
 refine Ws fun K2 hK2 => ?_
 refine Wo [1] ?_
 refine Xr rfl Qla rfl ?_
 intro b3 w3 N3
 have x3_2 := N3.ne B2
 have l3 := N3.ge g
 have g := g.trans (N3.g)
 replace B2 := B2.grow (N3.g)
 have B3 := N3.blk
 refine Zh (hK2 _ _ _ ?_)
 refine Ws fun K3 hK3 => ?_
 refine Wo [3, 2] ?_
 refine Zc rfl (fun _ => Qzb (Zn) (Zk (Zb rfl) (Zk (Zb rfl) (Zn)))) ?_
 refine Yu rfl Qka (Zb rfl) (Zb rfl) rfl rfl B3 rfl rfl ?_
 intro wS1 hgS1 hzS1
 clear B3
 intro B3
 replace B2 := B2.keep hgS1 (by intro h; injection h with h; first | exact x3_2 h.symm | exact x2_3 h | omega)
 have g := Xo g hgS1 (by intro k hk; injection hk with hk; omega)
 refine Zj [(1, _, _), (3, _, _)] (Za rfl (Za rfl (Zd _))) ?_
 refine Zh (hK3 _ _ _ ?_)
 refine Wo [0, 0, 2] ?_
 refine Ya rfl (Zt Ql (Zb rfl) (fun _ => B3.at_ rfl)) ?_
 refine Ya rfl (Yb Zr (Zb rfl) rfl (fun _ => (hbW.grow g).row)) ?_
 refine Yd rfl (Zu Xpa (Zb rfl) (Zk (Zb rfl) (Zn)) rfl) (walk11_ok (l := l) (J := J) (Jx := Jx) (L := listN t) (n0 := W.heap.size) (c2 := b2) (c3 := b3) hBD hDW l2 l3 hJ hY t v [] _ g.size B2 B3 (hkW.grow g) (List.prefix_refl _) (hJ _ _ _ hj (GI.of_g g (Nat.le_refl _))) hcn) ?_
 rintro v7 w7 ⟨k7, hy7⟩
 refine ⟨fun h => absurd h (by decide), ?_⟩
 refine Zj [] (Zd _) ?_
 refine Zh (Wjb rfl ?_)
 refine ⟨(GB.of_g g).trans k7, ?_⟩
 rcases hy7 with ⟨_, h⟩ | ⟨_, pre, x, hp, hx⟩
 ·exact .inl (by simpa using h)
 ·exact .inr ⟨pre, x, hp, hx⟩
theorem swalk_ok (t : Nd) (v : Value) (D : Nat → Prop) (w : World) (hk : Kd w D t.kids v) (hD : ∀ k, D k → k < w.heap.size) (hcn : count t ≤ 1000000) : Ret PP Jyb #[ndV t v] w fun r w' => G w w' ∧ ∃ b, w.heap.size ≤ b ∧ b < w'.heap.size ∧ r = .func (.func Zua) #[] #[.pointer (some ⟨b, 0, none⟩)] ∧
  ∀ w2, G w' w2 → IterOk PP Zua #[.pointer (some ⟨b, 0, none⟩)] w2 (fun k => D k ∨ k = b) (listN t) (EnN D) := by
 have hk0 := hk
 obtain ⟨p, c, rfl, hcap, hks⟩ := hk
 have g := G.refl w
 refine Ym (m := 4) Wtb rfl rfl [(0, True, _)] (Za rfl (Zd _)) ?_
 refine Zg fun K1 hK1 => ?_
 refine Zf [1, 3] ?_
 refine Wd rfl (Zb rfl) rfl ?_
 intro b1 w1 N1
 have l1 := N1.ge g
 have g := g.trans (N1.g)
 have B1 := N1.blk
 refine Zc rfl (fun _ => Ze Zl) ?_
 refine Zj [(1, _, _), (2, _, _)] (Za rfl (Za rfl (Zd _))) ?_
 refine Zh (hK1 _ _ ?_)
 refine Zg fun K2 hK2 => ?_
 refine Zf [3, 3] ?_
 refine Zc rfl (fun _ => Qzb (Zn) (Zk (Zb rfl) (Zn))) ?_
 refine Zc rfl (fun _ => Ze (Zb rfl)) ?_
 refine Zj [(2, _, _)] (Za rfl (Zd _)) ?_
 refine Zh (hK2 _ _ ?_)
 refine Yf (Yj rfl rfl ?_)
 refine ⟨g, _, l1, B1.lt, rfl, fun w2 g2 => ?_⟩
 exact walk1_ok t _ _ D w2 (B1.grow g2) ((hk0.grow g).grow g2) (fun k h => Nat.lt_of_lt_of_le (hD k h) (g.trans g2).size) hcn
end Go.Rk
namespace Go.Rk
open Go Go.RowKit
set_option linter.unusedVariables false
def Byt (w : World) (b : Nat) (e : TypeId) (l : List UInt8) : Prop := ∃ cs lo hi, w.heap[b]? = some (.cells cs e (lo, hi)) ∧ (∀ (j : Nat) (v : Value), (Lib.byteCells l)[j]? = some v → cs[j]? = some v) ∧ (hi = 0 ∨ l.length ≤ lo)
theorem Byt.row {w : World} {b : Nat} {e : TypeId} {l : List UInt8} (h : Byt w b e l) : RowAt w b 0 (Lib.byteCells l) := by
 obtain ⟨cs, lo, hi, hb, hc, _⟩ := h
 intro j v hj
 rw [Nat.zero_add]
 simp [World.cell?, hb, hc j v hj]
theorem Byt.lt {w : World} {b : Nat} {e : TypeId} {l : List UInt8} (h : Byt w b e l) : b < w.heap.size := by
 obtain ⟨cs, lo, hi, hb, _⟩ := h
 exact (Array.getElem?_eq_some_iff.mp hb).1
theorem Byt.keep {w w1 : World} {b : Nat} {e : TypeId} {l : List UInt8} {row : Option Nat} (h : Byt w b e l) (hg : w.grownBy w1 row) (hne : some b ≠ row) : Byt w1 b e l := by
 have hlt := h.lt
 obtain ⟨cs, lo, hi, hb, hc, hf⟩ := h
 exact ⟨cs, lo, hi, by obtain ⟨_, _, _, _, ho⟩ := hg; rw [ho b hlt hne]; exact hb, hc, hf⟩
theorem Byt.grow {w w1 : World} {b : Nat} {e : TypeId} {l : List UInt8} (h : Byt w b e l) (hg : G w w1) : Byt w1 b e l := h.keep (hg.only none) (by intro e; cases e)
section
variable {P : Program} {n : Nat} {σ : List Ent} {c : Prop} {wb : World} {ty : TypeId}
end
section
variable {P : Program} {Z : List PanicEntry → Act → World → Prop} {ops : List Oper} {cl : List Nat} {lv : List Bool} {W0 : World} {n : Nat} {K : Act → World → Prop} {k : Nat} {rest : List Oper} {σ : List Ent} {w : World} {d : Nat} {ty : TypeId} {pos : String} {after : Array Edge}
end
end Go.Rk
namespace Go.Rk
open Go Go.RowKit
set_option linter.unusedVariables false
structure Bld (base b : Nat) (l : List UInt8) (k : Int) (p a : Option Addr) (q : Nat) (w : World) : Prop where
 B : Blk w b Vo [.pointer p, .slice a l.length q, .int .i64 k]
 hb : base ≤ b
 row : w.ownsRow base Yla 1 (.slice a l.length q) l.length (Lib.byteCells l)
 n1 : (Value.slice a l.length q).ownBlock ≠ some b
 hp : p = none ∨ p = some ⟨b, 0, none⟩
theorem Bld.grow {base b : Nat} {l : List UInt8} {k : Int} {p a : Option Addr} {q : Nat} {w w' : World} (h : Bld base b l k p a q w) (g : G w w') : Bld base b l k p a q w' := { h with B := h.B.grow g, row := Zca h.row g }
theorem unsafe_to : Zzc PP Ut Woa = true := by kernel_rfl
theorem unsafe_from : Yqb PP Woa Ut Vo 3 0 = true := by kernel_rfl
theorem noEsc : Yrb PP 134 := noEscape_of (fn := Go.Proofs.Tryz.f134) Go.Proofs.Tryz.func134 (by kernel_rfl) (by kernel_rfl) (by kernel_rfl) (by kernel_rfl)
theorem bld_ptr : ∀ e, PP.underlying Ut = some (.pointer e) → (PP.info? e).isSome = true := fun e he => by
 have h : (match PP.underlying Ut with | some (.pointer e) => (PP.info? e).isSome | _ => false) = true := by kernel_rfl
 rw [he] at h; exact h
structure Keep (b : Nat) (v : Value) (w w' : World) : Prop where
 size : w.heap.size ≤ w'.heap.size
 block : ∀ k, k < w.heap.size → k ≠ b → v.ownBlock ≠ some k → w'.heap[k]? = w.heap[k]?
theorem Keep.refl (b : Nat) (v : Value) (w : World) : Keep b v w w := ⟨Nat.le_refl _, fun _ _ _ _ => rfl⟩
theorem Keep.grow {b : Nat} {v : Value} {w w' w1 : World} (h : Keep b v w w') (g : G w' w1) : Keep b v w w1 := ⟨Nat.le_trans h.size g.size, fun k hk h1 h2 => (g.block (Nat.lt_of_lt_of_le hk h.size)).trans (h.block k hk h1 h2)⟩
theorem Keep.only {b : Nat} {v : Value} {w w' w1 : World} (h : Keep b v w w') (hg : w'.grownBy w1 (some b)) : Keep b v w w1 := ⟨Nat.le_trans h.size hg.size, fun k hk h1 h2 => (hg.block k (Nat.lt_of_lt_of_le hk h.size) (by intro e; injection e with e; exact h1 e)).trans (h.block k hk h1 h2)⟩
theorem Keep.own {b : Nat} {v : Value} {w w' w1 : World} (h : Keep b v w w') (hg : w'.grownBy w1 v.ownBlock) : Keep b v w w1 := ⟨Nat.le_trans h.size hg.size, fun k hk h1 h2 => (hg.block k (Nat.lt_of_lt_of_le hk h.size) (Ne.symm h2)).trans (h.block k hk h1 h2)⟩
theorem Keep.trans {b : Nat} {v : Value} {w w' w1 : World} (h : Keep b v w w') (h' : Keep b v w' w1) : Keep b v w w1 := ⟨Nat.le_trans h.size h'.size, fun k hk h1 h2 => (h'.block k (Nat.lt_of_lt_of_le hk h.size) h1 h2).trans (h.block k hk h1 h2)⟩
theorem Wkb (base b : Nat) (l : List UInt8) (k : Int) (p a : Option Addr) (q : Nat) (w : World) (h : Bld base b l k p a q w) : Ret PP Ywa #[.pointer (some ⟨b, 0, none⟩)] w fun v w' => v = .tuple #[] ∧ Bld base b l k (some ⟨b, 0, none⟩) a q w' ∧ Below base w w' ∧ Keep b (.slice a l.length q) w w' := by
 have g := G.refl w
 refine Ym (m := 20) Zwa rfl rfl [(0, True, _)] (Za rfl (Zd _)) ?_
 refine Zg fun K1 hK1 => ?_
 refine Zf [3, 3, 3, 0, 3] ?_
 refine Zc rfl (fun _ => Zi (Zb rfl)) ?_
 refine Zc rfl (fun _ => Xl (Zb rfl)) ?_
 refine Zc rfl (fun _ => Zm Jd (Zb rfl)) ?_
 refine Ya rfl (Zt Zpa (Zb rfl) (fun _ => by first | exact (h.grow g).B.at_ rfl)) ?_
 refine Zc rfl (fun _ => rd_peq Yma (Zb rfl)) ?_
 refine Zj [(0, _, _), (6, _, _)] (Za rfl (Za rfl (Zd _))) ?_
 refine Zh (hK1 _ _ ?_)
 refine Zz (Zb rfl) (fun h1 => ?_) (fun h1 => ?_)
 ·have hp : p = none := by cases p with
   | none => rfl
   | some x => cases h1
  refine Zf [3, 3, 0, 3, 0, 3, 3, 2] ?_
  refine Zc rfl (fun _ => Zi (Zb rfl)) ?_
  refine Zc rfl (fun _ => Zi (Zb rfl)) ?_
  refine Ya rfl (rd_to_unsafe unsafe_to (Zb rfl) (fun _ => (h.grow g).B) rfl) ?_
  refine Zc rfl (fun _ => rd_noescape noEsc (Zb rfl)) ?_
  refine Ya rfl (Yac (e := Vo) (l := [_, _, _]) unsafe_from (Zb rfl) (fun _ => (h.grow g).B)) ?_
  refine Zc rfl (fun _ => Xl (Zb rfl)) ?_
  refine Zc rfl (fun _ => Zm Jd (Zb rfl)) ?_
  refine Us rfl Jia (Zb rfl) (Zb rfl) rfl rfl (h.grow g).B rfl rfl ?_
  intro w13 hg13 hz13 hB
  have hb' := Vya (Below.refl _ _) g hg13 (by have := h.hb; have := h.B.lt; omega) h.hb
  refine Zj [] (Zd _) ?_
  refine Zh (Xs rfl ?_)
  exact ⟨rfl, ⟨hB, h.hb, Vx (Zca h.row g) hg13 (.inr h.n1), h.n1, .inr rfl⟩, hb', ((Keep.refl _ _ _).grow g).only hg13⟩
 obtain rfl : p = some ⟨b, 0, none⟩ := by
  rcases h.hp with e | e
  ·rw [e] at h1; cases h1
  ·exact e
 refine Zg fun K2 hK2 => ?_
 refine Zf [3, 3, 3, 0, 3, 0] ?_
 refine Zc rfl (fun _ => Zi (Zb rfl)) ?_
 refine Zc rfl (fun _ => Xl (Zb rfl)) ?_
 refine Zc rfl (fun _ => Zm Jd (Zb rfl)) ?_
 refine Ya rfl (Zt Zpa (Zb rfl) (fun _ => by first | exact (h.grow g).B.at_ rfl)) ?_
 refine Zc rfl (fun _ => Zi (Zb rfl)) ?_
 refine Ya rfl (rd_pne_same Yma bld_ptr (Zb rfl) (Zb rfl)) ?_
 refine Zj [(19, _, _)] (Za rfl (Zd _)) ?_
 refine Zh (hK2 _ _ ?_)
 refine sc_false (Zb rfl) ?_
 refine Yq (Xs rfl ?_)
 exact ⟨rfl, h.grow g, Ug g (by have := h.hb; have := h.B.lt; omega), (Keep.refl _ _ _).grow g⟩
theorem ne_own {w : World} {base b m c : Nat} {xs l : List Value} {a : Option Addr} {e t : TypeId} (ho : w.ownsRow base e 1 (.slice a m c) m xs) (hB : Blk w b t l) (ht : t ≠ e) : (Value.slice a m c).ownBlock ≠ some b := Lib.ownBlock_ne ho hB ht
theorem writebyte_ok (base b : Nat) (l : List UInt8) (k : Int) (p a : Option Addr) (q : Nat) (c : UInt8) (w : World) (h : Bld base b l k p a q w) (hl : l.length < 100000000) : Ret PP Qu #[.pointer (some ⟨b, 0, none⟩), .int .u8 c.toNat] w fun v w' => v = .nilIface ∧ (∃ a' q', Bld base b (l ++ [c]) k (some ⟨b, 0, none⟩) a' q' w') ∧ Below base w w' ∧ Keep b (.slice a l.length q) w w' := by
 have g := G.refl w
 refine Ym (m := 17) Zxa rfl rfl [(0, True, _), (1, True, _)] (Za rfl (Za rfl (Zd _))) ?_
 refine Zg fun K1 hK1 => ?_
 refine Zf [3] ?_
 refine Zc rfl (fun _ => Ze Zl) ?_
 refine Zh (hK1 _ _ ?_)
 refine Zg fun K2 hK2 => ?_
 refine Zf [3, 2] ?_
 refine Zc rfl (fun _ => Zi (Zb rfl)) ?_
 refine Yd rfl (Zu Qr Yl (Zk (Zb rfl) (Zn)) rfl) (Wkb base b l k p a q _ (h.grow g)) ?_
 rintro v6 w6 ⟨rfl, h, hb, hk⟩
 refine ⟨fun h => absurd h (by decide), ?_⟩
 have hb := (Ug g (by have := h.hb; have := hb.size; have := ‹Bld base b l k p a q w›.B.lt; omega)).trans hb
 have hk := ((Keep.refl _ _ _).grow g).trans hk
 have g := G.refl w6
 refine Zj [(0, _, _), (1, _, _), (4, _, _)] (Za rfl (Za rfl (Za rfl (Zd _)))) ?_
 refine Zh (hK2 _ _ ?_)
 refine Zg fun K3 hK3 => ?_
 refine Zf [3, 3, 3, 3, 0, 3, 1, 2, 3, 3, 2] ?_
 refine Zc rfl (fun _ => Zi (Zb rfl)) ?_
 refine Zc rfl (fun _ => Zi (Zb rfl)) ?_
 refine Zc rfl (fun _ => Xl (Zb rfl)) ?_
 refine Zc rfl (fun _ => Zm Uu (Zb rfl)) ?_
 refine Ya rfl (Zt Wbb (Zb rfl) (fun _ => by first | exact (h.grow g).B.at_ rfl)) ?_
 refine Zc rfl (fun _ => Zi (Zb rfl)) ?_
 refine Zx [_] rfl Jja Ztc (Zp (Zb rfl) (Yc)) rfl rfl ?_
 intro b13 w13 N13
 have l13 := N13.ge g
 have g := g.trans (N13.g)
 have B13 := N13.blk
 have hbase : base ≤ w6.heap.size := by have := h.hb; have := h.B.lt; omega
 have hb := hb.trans (Ug g hbase)
 have h := h.grow g
 refine Jt rfl Jja Ztc rfl (by decide) (Zb rfl) h.row (Zb rfl) rfl N13.blk.row rfl (by simp only [maxLen]; omega) (by omega) (by have := g.size; omega) ?_
 intro a' c' w14 ht' hg14 hat
 have hB := h.B.keep hg14 (Ne.symm h.n1)
 refine Zc rfl (fun _ => Xl (Zb rfl)) ?_
 refine Zc rfl (fun _ => Zm Uu (Zb rfl)) ?_
 refine Us rfl Ugb (Zb rfl) (Zb rfl) rfl rfl hB rfl rfl ?_
 intro w16 hg16 hz16 hB
 have n1 := ne_own ht' (h.B.keep hg14 (Ne.symm h.n1)) (by decide)
 have hb := Vd (Vd hb hg14 (by have := g.size; omega) (fun k hk => (h.row.lt k hk).1)) hg16 (by have := g.size; have := hg14.size; omega) (fun k hk => by injection hk with hk; have := h.hb; omega)
 refine Zj [(4, _, _)] (Za rfl (Zd _)) ?_
 refine Zh (hK3 _ _ ?_)
 refine Zg fun K4 hK4 => ?_
 refine Zf [3] ?_
 refine Zc rfl (fun _ => Ze Zl) ?_
 refine Zh (hK4 _ _ ?_)
 refine Yf (Yj rfl rfl ?_)
 have hlen : (l ++ [c]).length = l.length + 1 := by simp
 refine ⟨rfl, ⟨a', c', ⟨by rw [hlen]; exact hB, h.hb, ?_, by rw [hlen]; exact n1, .inr rfl⟩⟩, hb, ((hk.grow g).own hg14).only hg16⟩
 rw [hlen, Lib.byteCells_append]
 exact Vx ht' hg16 (.inr n1)
theorem Ymc (base b : Nat) (l : List UInt8) (k : Int) (p a : Option Addr) (q : Nat) (s : List UInt8) (w : World) (h : Bld base b l k p a q w) (hl : l.length + s.length < 100000000) : Ret PP Uz #[.pointer (some ⟨b, 0, none⟩), Str s] w fun v w' => (∃ x, v = x) ∧ (∃ a' q', Bld base b (l ++ s) k (some ⟨b, 0, none⟩) a' q' w') ∧ Below base w w' ∧ Keep b (.slice a l.length q) w w' := by
 have g := G.refl w
 refine Ym (m := 19) Zda rfl rfl [(0, True, _), (1, True, _)] (Za rfl (Za rfl (Zd _))) ?_
 refine Zg fun K1 hK1 => ?_
 refine Zf [3, 3] ?_
 refine Zc rfl (fun _ => Ze Zl) ?_
 refine Zc rfl (fun _ => Ze Zl) ?_
 refine Zh (hK1 _ _ ?_)
 refine Zg fun K2 hK2 => ?_
 refine Zf [3, 2] ?_
 refine Zc rfl (fun _ => Zi (Zb rfl)) ?_
 refine Yd rfl (Zu Qr Yl (Zk (Zb rfl) (Zn)) rfl) (Wkb base b l k p a q _ (h.grow g)) ?_
 rintro v7 w7 ⟨rfl, h, hb, hk⟩
 refine ⟨fun h => absurd h (by decide), ?_⟩
 have hb := (Ug g (by have := h.hb; have := hb.size; have := ‹Bld base b l k p a q w›.B.lt; omega)).trans hb
 have hk := ((Keep.refl _ _ _).grow g).trans hk
 have g := G.refl w7
 refine Zj [(0, _, _), (1, _, _), (4, _, _), (5, _, _)] (Za rfl (Za rfl (Za rfl (Za rfl (Zd _))))) ?_
 refine Zh (hK2 _ _ ?_)
 refine Zg fun K3 hK3 => ?_
 refine Zf [3, 3, 3, 3, 0, 3, 2, 3, 3, 2] ?_
 refine Zc rfl (fun _ => Zi (Zb rfl)) ?_
 refine Zc rfl (fun _ => Zi (Zb rfl)) ?_
 refine Zc rfl (fun _ => Xl (Zb rfl)) ?_
 refine Zc rfl (fun _ => Zm Uu (Zb rfl)) ?_
 refine Ya rfl (Zt Wbb (Zb rfl) (fun _ => by first | exact (h.grow g).B.at_ rfl)) ?_
 refine Zc rfl (fun _ => Zi (Zb rfl)) ?_
 have hbase : base ≤ w7.heap.size := by have := h.hb; have := h.B.lt; omega
 have hb := hb.trans (Ug g hbase)
 have h := h.grow g
 refine sr_appends rfl Jja Ztc Yv (Zb rfl) h.row (Zb rfl) (by omega) (by have := g.size; omega) ?_
 intro a' c' w14 ht' hg14
 have hB := h.B.keep hg14 (Ne.symm h.n1)
 refine Zc rfl (fun _ => Xl (Zb rfl)) ?_
 refine Zc rfl (fun _ => Zm Uu (Zb rfl)) ?_
 refine Us rfl Ugb (Zb rfl) (Zb rfl) rfl rfl hB rfl rfl ?_
 intro w16 hg16 hz16 hB
 have n1 := ne_own ht' (h.B.keep hg14 (Ne.symm h.n1)) (by decide)
 have hb := Vd (Vd hb hg14 (by have := g.size; omega) (fun k hk => (h.row.lt k hk).1)) hg16 (by have := g.size; have := hg14.size; omega) (fun k hk => by injection hk with hk; have := h.hb; omega)
 refine Zj [(1, _, _), (4, _, _), (5, _, _)] (Za rfl (Za rfl (Za rfl (Zd _)))) ?_
 refine Zh (hK3 _ _ ?_)
 refine Zg fun K4 hK4 => ?_
 refine Zf [3, 3, 3, 3] ?_
 refine Zc rfl (fun _ => Zi (Zb rfl)) ?_
 refine Zc rfl (fun _ => Wz Yv (Zb rfl)) ?_
 refine Zc rfl (fun _ => Ze (Zb rfl)) ?_
 refine Zc rfl (fun _ => Ze Zl) ?_
 refine Zj [(4, _, _), (5, _, _)] (Za rfl (Za rfl (Zd _))) ?_
 refine Zh (hK4 _ _ ?_)
 refine Yf (Zsa (ts := [4, 5]) (vs := [_, _]) rfl rfl rfl ?_)
 have hlen : (l ++ s).length = l.length + s.length := by simp
 refine ⟨⟨_, rfl⟩, ⟨a', c', ⟨by rw [hlen]; exact hB, h.hb, ?_, by rw [hlen]; exact n1, .inr rfl⟩⟩, hb, ((hk.grow g).own hg14).only hg16⟩
 rw [hlen, Lib.byteCells_append]
 exact Vx ht' hg16 (.inr n1)
end Go.Rk
namespace Go.Rk
open Go Go.RowKit
set_option linter.unusedVariables false
def tabsL (k : Nat) : List UInt8 := List.replicate k 9
def digF : Nat → Nat → List UInt8
 | 0, _ => []
 | f + 1, n => bif Nat.blt n 10 then [UInt8.ofNat (48 + n)] else digF f (n / 10) ++ [UInt8.ofNat (48 + n % 10)]
def digL (n : Nat) : List UInt8 := digF 20 n
theorem digF_dec : ∀ (f n : Nat), n < 10 ^ (f + 1) → digF (f + 1) n = Lib.decDigits n := by
 intro f
 induction f with
 | zero =>
  intro n h
  have h1 : n < 10 := by simpa using h
  rw [Lib.decDigits, digF, dif_pos h1, show Nat.blt n 10 = true from Nat.blt_eq.mpr h1]; rfl
 | succ f ih =>
  intro n h
  rw [Lib.decDigits, digF]
  by_cases h1 : n < 10
  ·rw [dif_pos h1, show Nat.blt n 10 = true from Nat.blt_eq.mpr h1]; rfl
  ·rw [dif_neg h1, show Nat.blt n 10 = false by rw [← Bool.not_eq_true]; intro e; exact h1 (Nat.blt_eq.mp e)]
   rw [ih (n / 10) (by rw [Nat.pow_succ] at h; omega)]; rfl
theorem digL_dec {n : Nat} (h : n ≤ 9223372036854775807) : digL n = Lib.decDigits n := digF_dec 19 n (Nat.lt_of_le_of_lt h (by decide))
structure Tx where
 ex : Nat → List UInt8
 st : Nat → List UInt8
 ls : Nat → List UInt8
 cs : Nat → List UInt8
def tx0 : Tx := ⟨fun _ => [], fun _ => [], fun _ => [], fun _ => []⟩
def blkX (x : Tx) (k : Nat) : List UInt8 := (([123, 10] ++ x.ls (k + 1)) ++ tabsL k) ++ [125]
def parX (q : Bool) (s : List UInt8) : List UInt8 := bif q then ([40] ++ s) ++ [41] else s
def joinX : List (List UInt8) → List UInt8
 | [] => []
 | s :: r => s ++ r.flatMap fun u => [44, 32] ++ u
def typeX (t : Nd) : List UInt8 := bif decide (t.kind = 8) then [42] ++ t.text else bif decide (t.text = [99, 104, 97, 110]) then [99, 104, 97, 110, 32, 105, 110, 116] else bif decide (t.text = [102, 117, 110, 99]) then [102, 117, 110, 99, 40, 41] else t.text
def fieldX (t : Nd) : List UInt8 := (t.text ++ [32]) ++ typeX (kidAt t 0)
section
variable (t : Nd) (x : Nat → Tx) (l : List Tx)
def oprX (i k : Nat) : List UInt8 := parX (decide ((kidAt t i).kind = 32)) ((x i).ex k)
def basX (k : Nat) : List UInt8 := parX ((decide ((kidAt t 0).kind = 32) || decide ((kidAt t 0).kind = 31)) || decide ((kidAt t 0).kind = 33)) ((x 0).ex k)
def exX (k : Nat) : List UInt8 :=
 bif decide (t.kind = 24) then digL t.num.toNat
 else bif decide (t.kind = 25) then (bif decide (t.num = 1) then [116, 114, 117, 101] else [102, 97, 108, 115, 101])
 else bif decide (t.kind = 26) then [110, 105, 108]
 else bif decide (t.kind = 27) then t.text
 else bif decide (t.kind = 34) then ([110, 101, 119, 40] ++ t.text) ++ [41]
 else bif decide (t.kind = 28) then (basX t x k ++ [46]) ++ t.text
 else bif decide (t.kind = 29) then ((basX t x k ++ [91]) ++ (x 1).ex k) ++ [93]
 else bif decide (t.kind = 30) then ((basX t x k ++ [40]) ++ joinX ((l.drop 1).map fun y => y.ex k)) ++ [41]
 else bif decide (t.kind = 31) then t.text ++ oprX t x 0 k
 else bif decide (t.kind = 33) then [60, 45] ++ oprX t x 0 k
 else bif decide (t.kind = 32) then (((oprX t x 0 k ++ [32]) ++ t.text) ++ [32]) ++ oprX t x 1 k
 else bif decide (t.kind = 35) then ([109, 97, 107, 101, 40, 91, 93, 105, 110, 116, 44, 32] ++ (x 0).ex k) ++ [41]
 else bif decide (t.kind = 36) then ([109, 97, 107, 101, 40, 99, 104, 97, 110, 32, 105, 110, 116, 44, 32] ++ (x 0).ex k) ++ [41]
 else bif decide (t.kind = 37) then ([108, 101, 110, 40] ++ (x 0).ex k) ++ [41]
 else [102, 117, 110, 99, 40, 41, 32] ++ blkX (x 0) k
def varX (k : Nat) : List UInt8 := ((([118, 97, 114, 32] ++ t.text) ++ [32]) ++ typeX (kidAt t 0)) ++ (bif decide ((kidAt t 1).kind = 9) then [] else [32, 61, 32] ++ (x 1).ex k)
def ifX (k : Nat) : List UInt8 := ((([105, 102, 32] ++ (x 0).ex k) ++ [32]) ++ blkX (x 1) k) ++ (bif decide ((kidAt t 2).kind = 10) then [32, 101, 108, 115, 101, 32] ++ blkX (x 2) k else bif decide ((kidAt t 2).kind = 18) then [32, 101, 108, 115, 101, 32] ++ (x 2).st k else [])
def stX (k : Nat) : List UInt8 :=
 bif decide (t.kind = 6) then varX t x k
 else bif decide (t.kind = 10) then (([123, 10] ++ l.flatMap fun y => (tabsL (k + 1) ++ y.st (k + 1)) ++ [10]) ++ tabsL k) ++ [125]
 else bif decide (t.kind = 11) then (t.text ++ [32, 58, 61, 32]) ++ (x 0).ex k
 else bif decide (t.kind = 12) then ((x 0).ex k ++ [32, 61, 32]) ++ (x 1).ex k
 else bif decide (t.kind = 13) then (x 0).ex k
 else bif decide (t.kind = 14) then [103, 111, 32] ++ (x 0).ex k
 else bif decide (t.kind = 15) then [100, 101, 102, 101, 114, 32] ++ (x 0).ex k
 else bif decide (t.kind = 16) then ((x 0).ex k ++ [32, 60, 45, 32]) ++ (x 1).ex k
 else bif decide (t.kind = 17) then ([99, 108, 111, 115, 101, 40] ++ (x 0).ex k) ++ [41]
 else bif decide (t.kind = 21) then ([112, 114, 105, 110, 116, 40] ++ (x 0).ex k) ++ [41]
 else bif decide (t.kind = 18) then ifX t x k
 else bif decide (t.kind = 22) then (([115, 101, 108, 101, 99, 116, 32, 123, 10] ++ l.flatMap fun y => y.cs k) ++ tabsL k) ++ [125]
 else bif decide (t.kind = 20) then (bif lenK t 0 then [114, 101, 116, 117, 114, 110] else [114, 101, 116, 117, 114, 110, 32] ++ (x 0).ex k)
 else bif decide ((kidAt t 0).kind = 9) then [102, 111, 114, 32] ++ blkX (x 1) k
 else (([102, 111, 114, 32] ++ (x 0).ex k) ++ [32]) ++ blkX (x 1) k
def csX (k : Nat) : List UInt8 := (bif decide ((kidAt t 0).kind = 9) then tabsL k ++ [100, 101, 102, 97, 117, 108, 116, 58, 10] else ((tabsL k ++ [99, 97, 115, 101, 32]) ++ (x 0).st k) ++ [58, 10]) ++ (x 1).ls (k + 1)
end
def lsX (l : List Tx) (k : Nat) : List UInt8 := l.flatMap fun y => (tabsL k ++ y.st k) ++ [10]
def txF (t : Nd) (l : List Tx) : Tx := ⟨exX t (fun i => l.getD i tx0) l, stX t (fun i => l.getD i tx0) l, lsX l, csX t (fun i => l.getD i tx0)⟩
def txT (t : Nd) : Tx := para txF t
def nx0 : Tx := txT nd0
theorem Wm (t : Nd) : txT t = txF t (t.kids.map txT) := Xfa txF t
theorem Ync {t : Nd} {i : Nat} (h : i < t.kids.length) : (t.kids.map txT).getD i tx0 = txT (kidAt t i) := by
 rw [Xu h]; simp [List.getD_eq_getElem?_getD, List.getElem?_eq_getElem h]
def declX (t : Nd) : List UInt8 :=
 bif decide (t.kind = 6) then (txT t).st 0
 else bif decide (t.kind = 2) then ((([116, 121, 112, 101, 32] ++ t.text) ++ [32, 115, 116, 114, 117, 99, 116, 32, 123, 10]) ++ t.kids.flatMap fun f => (((([9] ++ f.text) ++ [32]) ++ typeX (kidAt f 0)) ++ [10])) ++ [125]
 else ((((([102, 117, 110, 99, 32] ++ t.text) ++ [40]) ++ joinX ((kidAt t 0).kids.map fieldX)) ++ [41, 32]) ++ (bif decide ((kidAt t 1).kind = 9) then [] else typeX (kidAt t 1) ++ [32])) ++ blkX (txT (kidAt t 2)) 0
def printX (t : Nd) : List UInt8 := bif validB t then t.kids.flatMap fun d => declX d ++ [10] else []
/-! the program's way: a line feed ahead of each line -/
def plX (l : List Nd) (f : Nd → Nat → List UInt8) (k : Nat) : List UInt8 := l.flatMap fun c => ([10] ++ tabsL k) ++ f c k
theorem rot (l : List Nd) (f : Nd → Nat → List UInt8) (k : Nat) : plX l f k ++ [10] = [10] ++ l.flatMap fun c => (tabsL k ++ f c k) ++ [10] := by
 induction l with
 | nil => rfl
 | cons c l ih =>
  unfold plX at ih ⊢
  rw [List.flatMap_cons, List.flatMap_cons, List.append_assoc, ih]
  simp only [List.append_assoc]
theorem Unb (t : Nd) (k : Nat) : (txT t).ls k = t.kids.flatMap fun c => (tabsL k ++ (txT c).st k) ++ [10] := by
 rw [Wm]
 show lsX (t.kids.map txT) k = _
 rw [lsX, List.flatMap_map]
theorem blk_eq (t : Nd) (k : Nat) : blkX (txT t) k = ((([123] ++ plX t.kids (fun c k => (txT c).st k) (k + 1)) ++ [10]) ++ tabsL k) ++ [125] := by
 have h := rot t.kids (fun c k => (txT c).st k) (k + 1)
 rw [blkX, Unb, List.append_assoc [123], h]
 simp only [List.append_assoc]; rfl
end Go.Rk
namespace Go.Rk
open Go Go.RowKit
set_option linter.unusedVariables false
def LaidP (n0 : Nat) (w : World) : Prop := Lib.TabBelow PP n0 w "internal/strconv.uint64pow10" .u64 Lib.pow10Tab
structure Prn (n0 b : Nat) (l : List UInt8) (k : Nat) (w : World) : Prop where
 bld : ∃ p a q, Bld n0 b l (k : Int) p a q w ∧ (l = [] → a = none)
 tab : LaidP n0 w
def ByR (w : World) (k : Nat) : Prop := ∃ cs fr, w.heap[k]? = some (.cells cs Yla fr)
structure PF (n0 b : Nat) (w w' : World) : Prop where
 os : w'.os = w.os
 tape : w'.tape = w.tape
 output : w'.output = w.output
 size : w.heap.size ≤ w'.heap.size
 block : ∀ k, k < w.heap.size → (k < n0 ∨ (k ≠ b ∧ ¬ ByR w k)) → w'.heap[k]? = w.heap[k]?
theorem PF.refl (n0 b : Nat) (w : World) : PF n0 b w w := ⟨rfl, rfl, rfl, Nat.le_refl _, fun _ _ _ => rfl⟩
theorem PF.trans {n0 b : Nat} {u v w : World} (h : PF n0 b u v) (k : PF n0 b v w) : PF n0 b u w :=
 ⟨k.os.trans h.os, k.tape.trans h.tape, k.output.trans h.output, Nat.le_trans h.size k.size, fun i hi hb => by
  have e := h.block i hi hb
  refine (k.block i (Nat.lt_of_lt_of_le hi h.size) (hb.imp id fun hb => ⟨hb.1, fun hr => hb.2 ?_⟩)).trans e
  obtain ⟨cs, fr, hr⟩ := hr
  exact ⟨cs, fr, e.symm.trans hr⟩⟩
theorem PF.of_g {n0 b : Nat} {w w' : World} (h : G w w') : PF n0 b w w' := ⟨h.os, h.tape, h.output, h.size, fun k hk _ => h.block hk⟩
theorem PF.below {n0 b : Nat} {w w' : World} (h : PF n0 b w w') (hn : n0 ≤ w.heap.size) : Go.RowKit.Below n0 w w' := ⟨h.os, h.tape, h.output, h.size, fun k hk => h.block k (by omega) (.inl hk)⟩
theorem Wta {n0 b : Nat} {w0 w w' : World} {j : Nat} (h : PF n0 b w0 w) (hg : w.grownBy w' (some j)) (hj : w0.heap.size ≤ j) : PF n0 b w0 w' :=
 ⟨hg.os.trans h.os, hg.tape.trans h.tape, hg.output.trans h.output, Nat.le_trans h.size hg.size, fun k hk hb => (hg.block k (Nat.lt_of_lt_of_le hk h.size) (by intro e; injection e with e; omega)).trans (h.block k hk hb)⟩
theorem pf_b {n0 b : Nat} {w0 w w' : World} (h : PF n0 b w0 w) (hg : w.grownBy w' (some b)) (hb : n0 ≤ b) : PF n0 b w0 w' :=
 ⟨hg.os.trans h.os, hg.tape.trans h.tape, hg.output.trans h.output, Nat.le_trans h.size hg.size, fun k hk hk2 => (hg.block k (Nat.lt_of_lt_of_le hk h.size) (by intro e; injection e with e; rcases hk2 with h | h; omega; exact h.1 e)).trans (h.block k hk hk2)⟩
theorem Blk.pf {n0 b j : Nat} {w w' : World} {e : TypeId} {l : List Value} (h : Blk w j e l) (g : PF n0 b w w') (he : Nat.beq e Yla = false) (hj : j ≠ b) : Blk w' j e l := by
 refine (g.block j h.lt (.inr ⟨hj, fun ⟨cs, fr, hr⟩ => ?_⟩)).trans h
 unfold Blk at h
 rw [h] at hr; injection hr with hr; injection hr with _ hr; subst hr; simp at he
theorem Kd.pf {n0 b : Nat} {w w' : World} {D : Nat → Prop} {ks : List Nd} {v : Value} (h : Kd w D ks v) (g : PF n0 b w w') (hD : ∀ k, D k → k < n0) : Kd w' D ks v :=
 Xva h (fun _ h _ => h) fun k hk hlt => g.block k hlt (.inl (hD k hk))
theorem RowAt.pf {n0 b j o : Nat} {w w' : World} {l : List Value} (h : RowAt w j o l) (g : PF n0 b w w') (hj : j < n0) : RowAt w' j o l := fun i v hi => by
 have h1 := h i v hi
 exact (World.cell?_of_block (g.block j (World.block_lt_of_cell? w _ h1) (.inl hj))).trans h1
theorem own_byr {n0 : Nat} {w : World} {v : Value} {m : Nat} {xs : List Value} (h : w.ownsRow n0 Yla 1 v m xs) {k : Nat} (hk : v.ownBlock = some k) : ByR w k := by
 rcases h.2 with ⟨h1, _⟩ | ⟨g, cap, cur, h1, _, h3, _⟩
 ·rw [h1] at hk; cases hk
 ·rw [h1] at hk
  have : g = k := by injection hk
  subst this
  exact ⟨_, _, h3⟩
theorem pf_keep {n0 b : Nat} {w w' : World} {l : List UInt8} {k : Int} {p a : Option Addr} {q : Nat} (h : Bld n0 b l k p a q w) (hb : Go.RowKit.Below n0 w w') (hk : Keep b (.slice a l.length q) w w') : PF n0 b w w' :=
 ⟨hb.os, hb.tape, hb.output, hb.size, fun j hj hh => by
  rcases hh with hh | ⟨h1, h2⟩
  ·exact hb.block j hh
  ·exact hk.block j hj h1 fun e => h2 (own_byr h.row e)⟩
theorem Prn.grow {n0 b : Nat} {l : List UInt8} {k : Nat} {w w' : World} (h : Prn n0 b l k w) (g : G w w') : Prn n0 b l k w' := by
 obtain ⟨p, a, q, h1, h2⟩ := h.bld
 exact ⟨⟨p, a, q, h1.grow g, h2⟩, h.tab.on (Ug g (by have := h1.hb; have := h1.B.lt; omega))⟩
theorem Prn.ge {n0 b : Nat} {l : List UInt8} {k : Nat} {w : World} (h : Prn n0 b l k w) : n0 ≤ b ∧ b < w.heap.size := by
 obtain ⟨p, a, q, h1, h2⟩ := h.bld
 exact ⟨h1.hb, h1.B.lt⟩
theorem Prn.keep {n0 b j : Nat} {l : List UInt8} {k : Nat} {w w' : World} {e : TypeId} {xs : List Value} (h : Prn n0 b l k w) (hg : w.grownBy w' (some j)) (hB : Blk w j e xs) (he : Nat.beq e Yla = false) (hj : j ≠ b) (hn : n0 ≤ j) : Prn n0 b l k w' := by
 obtain ⟨p, a, q, h1, h2⟩ := h.bld
 have hne : (Value.slice a l.length q).ownBlock ≠ some j := fun e2 => by
  obtain ⟨cs, fr, hr⟩ := own_byr h1.row e2
  unfold Blk at hB
  rw [hB] at hr; injection hr with hr; injection hr with _ hr; subst hr; simp at he
 exact ⟨⟨p, a, q, { h1 with B := h1.B.keep hg (by intro e; injection e with e; exact hj e.symm), row := Vx h1.row hg (.inr hne) }, h2⟩, h.tab.on (Vd (Go.RowKit.Below.refl _ _) hg (by have := h1.hb; have := h1.B.lt; omega) (fun k hk => by injection hk with hk; omega))⟩
@[reducible] def Wr (n0 b : Nat) (l s : List UInt8) (k : Nat) (w : World) (r : Value) (w' : World) : Prop := r = .tuple #[] ∧ Prn n0 b (l ++ s) k w' ∧ PF n0 b w w'
theorem prn_string {n0 b : Nat} {l : List UInt8} {k : Nat} {w : World} (s : List UInt8) (h : Prn n0 b l k w) (hl : l.length + s.length < 100000000) (hs : s ≠ []) :
  Ret PP Uz #[.pointer (some ⟨b, 0, none⟩), Str s] w fun _ w' => Prn n0 b (l ++ s) k w' ∧ PF n0 b w w' := by
 obtain ⟨p, a, q, h1, h2⟩ := h.bld
 refine (Ymc n0 b l k p a q s w h1 hl).mono fun v w' ⟨_, ⟨a', q', h3⟩, hb, hk⟩ => ?_
 exact ⟨⟨⟨_, a', q', h3, fun e => absurd (List.append_eq_nil_iff.1 e).2 hs⟩, h.tab.on hb⟩, pf_keep h1 hb hk⟩
theorem prn_byte {n0 b : Nat} {l : List UInt8} {k : Nat} {w : World} (c : UInt8) (h : Prn n0 b l k w) (hl : l.length < 100000000) :
  Ret PP Qu #[.pointer (some ⟨b, 0, none⟩), .int .u8 c.toNat] w fun _ w' => Prn n0 b (l ++ [c]) k w' ∧ PF n0 b w w' := by
 obtain ⟨p, a, q, h1, h2⟩ := h.bld
 refine (writebyte_ok n0 b l k p a q c w h1 hl).mono fun v w' ⟨_, ⟨a', q', h3⟩, hb, hk⟩ => ?_
 exact ⟨⟨⟨_, a', q', h3, fun e => absurd (List.append_eq_nil_iff.1 e).2 (by simp)⟩, h.tab.on hb⟩, pf_keep h1 hb hk⟩
end Go.Rk
namespace Go.Rk
open Go Go.RowKit
set_option linter.unusedVariables false
theorem RowAt.pfb {n0 b j o : Nat} {w w' : World} {l : List Value} (h : RowAt w j o l) (g : PF n0 b w w') (hj : j ≠ b) (hr : ¬ ByR w j) : RowAt w' j o l := fun i v hi => by
 have h1 := h i v hi
 exact (World.cell?_of_block (g.block j (World.block_lt_of_cell? w _ h1) (.inr ⟨hj, hr⟩))).trans h1
theorem blk_byr {w : World} {b : Nat} {e : TypeId} {l : List Value} (h : Blk w b e l) (he : Nat.beq e Yla = false) : ¬ ByR w b := fun ⟨cs, fr, hr⟩ => by
 unfold Blk at h
 rw [h] at hr; injection hr with hr; injection hr with _ hr; subst hr; simp at he
theorem Wua {α : Type} {ts : List (List α)} {i : Nat} (h : i < ts.length) : (ts.take (i + 1)).flatten = (ts.take i).flatten ++ ts[i] := by
 rw [List.take_add_one, List.getElem?_eq_getElem h, List.flatten_append]; simp
theorem Qxb {α : Type} (ts : List (List α)) (i : Nat) : (ts.take i).flatten.length ≤ ts.flatten.length := by
 conv => rhs; rw [← List.take_append_drop i ts, List.flatten_append, List.length_append]
 omega
theorem write_b {n0 b : Nat} {l : List UInt8} {k : Nat} {w : World} (ts : List (List UInt8)) (b' o c : Nat) (hP : Prn n0 b l k w) (hR : RowAt w b' o (ts.map Str)) (hb : b' ≠ b) (hbr : ¬ ByR w b') (hlen : l.length + ts.flatten.length < 100000000) (hn : ∀ s ∈ ts, s ≠ []) (hts : ts.length ≤ 1000) :
  RetB PP Uy #[.pointer (some ⟨b, 0, none⟩), .slice (some ⟨b', o, none⟩) ts.length c] w (Wr n0 b l ts.flatten k w) := by
 have g := PF.refl n0 b w
 refine retB_of_sc (m := 18) Wca rfl rfl [(0, True, _), (1, True, _)] (Za rfl (Za rfl (Zd _))) ?_
 refine Zg fun K1 hK1 => ?_
 refine Zf [3, 3, 3] ?_
 refine Zc rfl (fun _ => Zi (Zb rfl)) ?_
 refine Zc rfl (fun _ => Xx Yn (Zb rfl)) ?_
 refine Zc rfl (fun _ => Zi Zl) ?_
 refine Zj [(0, _, _), (6, _, _), (7, _, _), (8, _, _)] (Za rfl (Za rfl (Za rfl (Za rfl (Zd _))))) ?_
 refine Zh (hK1 _ _ ?_)
 refine Yp ?_
 refine Wv (fun (i : Nat) u1 => (i ≤ ts.length ∧ Prn n0 b (l ++ (ts.take i).flatten) k u1) ∧ PF n0 b w u1) [(0, True, _), (6, True, _), (7, True, _)] (fun (i : Nat) => [(8, True, .int .i64 i)]) (fun (i : Nat) => ts.length - i) (0) ⟨⟨Nat.zero_le _, by simpa using hP⟩, PF.refl _ _ _⟩ (Za rfl (Za rfl (Za rfl (Za rfl (Zd _))))) ?_
 rintro i u1 ⟨hI1, gl1⟩
 have g := g.trans gl1
 obtain ⟨hi, hP⟩ := hI1
 refine Zg fun K2 hK2 => ?_
 refine Zf [3] ?_
 refine Zc rfl (fun _ => Vh (Zb rfl) (Zb rfl)) ?_
 refine Zh (hK2 _ _ ?_)
 refine Yi [(0, _, _), (6, _, _), (7, _, _), (8, _, _), (9, _, _)] (Za rfl (Za rfl (Za rfl (Za rfl (Za rfl (Zd _)))))) ?_
 refine Zg fun K3 hK3 => ?_
 refine Zz (Zb rfl) (fun h1 => ?_) (fun h1 => ?_)
 ·replace h1 : i < ts.length := by simp only [decide_eq_true_eq] at h1; omega
  have hv : (ts.map Str)[i * 1]? = some (Str ts[i]) := by simp [h1]
  have hfl := Qxb ts (i + 1)
  rw [Wua h1, List.length_append] at hfl
  refine Yq (hK3 _ _ ?_)
  refine Yi [(0, _, _), (6, _, _), (7, _, _), (8, _, _)] (Za rfl (Za rfl (Za rfl (Za rfl (Zd _))))) ?_
  refine Zg fun K4 hK4 => ?_
  refine Yp ?_
  refine Zg fun K5 hK5 => ?_
  refine Zf [3, 0, 3] ?_
  refine Zc rfl (fun _ => Uc Yn (Zb rfl) (Zb rfl) (fun _ => by omega)) ?_
  refine Ya rfl (Zt Yt (Zb rfl) (fun _ => (hR.pfb g hb hbr) _ _ hv)) ?_
  refine Zc rfl (fun _ => Ze (Zb rfl)) ?_
  refine Zj [(0, _, _), (5, _, _), (6, _, _), (7, _, _), (8, _, _)] (Za rfl (Za rfl (Za rfl (Za rfl (Za rfl (Zd _)))))) ?_
  refine Zh (hK5 _ _ ?_)
  refine Zf [3, 3, 3, 3, 2] ?_
  refine Zc rfl (fun _ => Zi (Zb rfl)) ?_
  refine Zc rfl (fun _ => Xl (Zb rfl)) ?_
  refine Zc rfl (fun _ => Zm Ux (Zb rfl)) ?_
  refine Zc rfl (fun _ => Zi (Zb rfl)) ?_
  refine Yd rfl (Zu Zva Yl (Zk (Zb rfl) (Zk (Zb rfl) (Zn))) rfl) (prn_string ts[i] hP (by simp only [List.length_append]; omega) (hn _ (List.getElem_mem h1))) ?_
  rintro v16 w16 ⟨hP, g16⟩
  refine ⟨fun h => absurd h (by decide), ?_⟩
  have g := g.trans g16
  try have gl1 := gl1.trans g16
  refine Zj [(0, _, _), (6, _, _), (7, _, _), (8, _, _)] (Za rfl (Za rfl (Za rfl (Za rfl (Zd _))))) ?_
  refine Zh (hK4 _ _ ?_)
  refine Zf [3, 3] ?_
  refine Zc rfl (fun _ => Xq (Zb rfl) Zl (fun _ => by omega)) ?_
  refine Zc rfl (fun _ => Zi (Zb rfl)) ?_
  refine Zj [(8, _, _), (0, _, _), (6, _, _), (7, _, _)] (Za rfl (Za rfl (Za rfl (Za rfl (Zd _))))) ?_
  refine Zh (fun a ha => ?_)
  exact ⟨i + 1, ha, ⟨⟨h1, by rw [Wua h1, ← List.append_assoc]; exact hP⟩, gl1⟩, by omega⟩
 replace h1 : i = ts.length := by simp only [decide_eq_false_iff_not] at h1; omega
 refine Wa rfl (Xs rfl ?_)
 refine ⟨rfl, ?_, g⟩
 rw [h1, List.take_length] at hP; exact hP
theorem Xd {n0 b : Nat} {l : List UInt8} {k : Nat} {w : World} (ts : List (List UInt8)) {b' : Nat} (hP : Prn n0 b l k w) (hR : Blk w b' ty_string (ts.map Str)) (hb : b' ≠ b) (hlen : l.length + ts.flatten.length < 100000000) (hn : ts.all (fun s => !s.isEmpty) = true) (hts : ts.length ≤ 1000) :
  Ret PP Uy #[.pointer (some ⟨b, 0, none⟩), .slice (some ⟨b', 0, none⟩) ts.length ts.length] w (Wr n0 b l ts.flatten k w) :=
 (write_b ts b' 0 _ hP hR.row hb (blk_byr hR rfl) hlen (fun s hs => by
  have := List.all_eq_true.1 hn s hs
  intro e; subst e; simp at this) hts).ret
theorem Wlb {n0 b : Nat} {l : List UInt8} {k : Nat} {w : World} (hP : Prn n0 b l k w) (hlen : l.length + k + 1 < 100000000) : Ret PP Una #[.pointer (some ⟨b, 0, none⟩)] w (Wr n0 b l ([10] ++ tabsL k) k w) := by
 have g := PF.refl n0 b w
 refine Ym (m := 17) Vca rfl rfl [(0, True, _)] (Za rfl (Zd _)) ?_
 refine Zg fun K1 hK1 => ?_
 refine Zf [3, 3, 3, 2] ?_
 refine Zc rfl (fun _ => Zi (Zb rfl)) ?_
 refine Zc rfl (fun _ => Xl (Zb rfl)) ?_
 refine Zc rfl (fun _ => Zm Ux (Zb rfl)) ?_
 refine Yd rfl (Zu Qv Yl (Zk (Zb rfl) (Zk Zl (Zn))) rfl) (prn_byte 10 hP (by omega)) ?_
 rintro v5 w5 ⟨hP, g5⟩
 refine ⟨fun h => absurd h (by decide), ?_⟩
 have g := g.trans g5
 refine Zj [(0, _, _)] (Za rfl (Zd _)) ?_
 refine Zh (hK1 _ _ ?_)
 refine Zg fun K2 hK2 => ?_
 refine Zf [3, 3, 3, 0, 3] ?_
 obtain ⟨p1, a1, q1, hB1, hB2⟩ := hP.bld
 refine Zc rfl (fun _ => Zi (Zb rfl)) ?_
 refine Zc rfl (fun _ => Xl (Zb rfl)) ?_
 refine Zc rfl (fun _ => Zm Ue (Zb rfl)) ?_
 refine Ya rfl (Zt Yy (Zb rfl) (fun _ => hB1.B.at_ rfl)) ?_
 refine Zc rfl (fun _ => Zi Zl) ?_
 refine Zj [(0, _, _), (9, _, _), (10, _, _)] (Za rfl (Za rfl (Za rfl (Zd _)))) ?_
 refine Zh (hK2 _ _ ?_)
 refine Yp ?_
 refine Wv (fun (i : Nat) u1 => (i ≤ k ∧ Prn n0 b (l ++ [10] ++ tabsL i) k u1) ∧ PF n0 b w5 u1) [(0, True, _), (9, True, _)] (fun (i : Nat) => [(10, True, .int .i64 i)]) (fun (i : Nat) => k - i) (0) ⟨⟨Nat.zero_le _, by simpa [tabsL] using hP⟩, PF.refl _ _ _⟩ (Za rfl (Za rfl (Za rfl (Zd _)))) ?_
 rintro i u1 ⟨hI1, gl1⟩
 have g := g.trans gl1
 obtain ⟨hi, hP⟩ := hI1
 refine Zg fun K3 hK3 => ?_
 refine Zf [3] ?_
 refine Zc rfl (fun _ => Vh (Zb rfl) (Zb rfl)) ?_
 refine Zh (hK3 _ _ ?_)
 refine Yi [(0, _, _), (9, _, _), (10, _, _), (11, _, _)] (Za rfl (Za rfl (Za rfl (Za rfl (Zd _))))) ?_
 refine Zg fun K4 hK4 => ?_
 refine Zz (Zb rfl) (fun h1 => ?_) (fun h1 => ?_)
 ·replace h1 : i < k := by simp only [decide_eq_true_eq] at h1; omega
  refine Yq (hK4 _ _ ?_)
  refine Yi [(0, _, _), (9, _, _), (10, _, _)] (Za rfl (Za rfl (Za rfl (Zd _)))) ?_
  refine Zg fun K5 hK5 => ?_
  refine Yp ?_
  refine Zf [3, 3, 3, 2] ?_
  refine Zc rfl (fun _ => Zi (Zb rfl)) ?_
  refine Zc rfl (fun _ => Xl (Zb rfl)) ?_
  refine Zc rfl (fun _ => Zm Ux (Zb rfl)) ?_
  refine Yd rfl (Zu Qv Yl (Zk (Zb rfl) (Zk Zl (Zn))) rfl) (prn_byte 9 hP (by simp only [List.length_append, tabsL, List.length_replicate, List.length_cons, List.length_nil]; omega)) ?_
  rintro v15 w15 ⟨hP, g15⟩
  refine ⟨fun h => absurd h (by decide), ?_⟩
  have g := g.trans g15
  try have gl1 := gl1.trans g15
  refine Zj [(0, _, _), (9, _, _), (10, _, _)] (Za rfl (Za rfl (Za rfl (Zd _)))) ?_
  refine Zh (hK5 _ _ ?_)
  refine Zf [3, 3] ?_
  refine Zc rfl (fun _ => Xq (Zb rfl) Zl (fun _ => by omega)) ?_
  refine Zc rfl (fun _ => Zi (Zb rfl)) ?_
  refine Zj [(10, _, _), (0, _, _), (9, _, _)] (Za rfl (Za rfl (Za rfl (Zd _)))) ?_
  refine Zh (fun a ha => ?_)
  refine ⟨i + 1, ha, ⟨⟨h1, ?_⟩, gl1⟩, by omega⟩
  rw [tabsL, List.replicate_succ', ← List.append_assoc]; exact hP
 replace h1 : i = k := by simp only [decide_eq_false_iff_not] at h1; omega
 refine Wa rfl (Xs rfl ?_)
 refine ⟨rfl, ?_, g⟩
 rw [h1] at hP; rw [← List.append_assoc]; exact hP
theorem typ_ok {n0 b : Nat} {l : List UInt8} {k : Nat} {w : World} (t : Nd) (v : Value) (hP : Prn n0 b l k w) (ht : t.text ≠ []) (hlen : l.length + (typeX t).length < 100000000) (hv : ∃ p c, v = .slice p t.kids.length c) : Ret PP Qea #[.pointer (some ⟨b, 0, none⟩), ndV t v] w (Wr n0 b l (typeX t) k w) := by
 have g := PF.refl n0 b w
 have hbn := hP.ge
 obtain ⟨p, c, rfl⟩ := hv
 refine Ym (m := 32) Voa rfl rfl [(0, True, _), (1, True, _)] (Za rfl (Za rfl (Zd _))) ?_
 refine Zg fun K1 hK1 => ?_
 refine Zf [1] ?_
 refine Wd rfl (Zb rfl) rfl ?_
 intro b3 w3 N3
 have l3 := newge N3 g.size
 have g := g.trans (PF.of_g (N3.g))
 have hP := hP.grow (N3.g)
 have B3 := N3.blk
 refine Zj [(0, _, _), (3, _, _)] (Za rfl (Za rfl (Zd _))) ?_
 refine Zh (hK1 _ _ ?_)
 refine Yp ?_
 refine Zg fun K2 hK2 => ?_
 refine Zf [3, 0, 3, 3] ?_
 refine Zc rfl (fun _ => Zm Ys (Zb rfl)) ?_
 refine Ya rfl (Zt Yy (Zb rfl) (fun _ => B3.at_ rfl)) ?_
 refine Zc rfl (fun _ => Yg (Zb rfl) Zl) ?_
 refine Zc rfl (fun _ => Ze (Zb rfl)) ?_
 refine Zj [(0, _, _), (3, _, _), (9, _, _)] (Za rfl (Za rfl (Za rfl (Zd _)))) ?_
 refine Zh (hK2 _ _ ?_)
 refine Zz (Zb rfl) (fun h1 => ?_) (fun h1 => ?_)
 ·have e : typeX t = [42] ++ t.text := by unfold typeX; rw [h1]; rfl
  rw [e] at hlen
  refine Zf [3, 3, 0, 1, 2] ?_
  refine Zc rfl (fun _ => Zi (Zb rfl)) ?_
  refine Zc rfl (fun _ => Zm Yw (Zb rfl)) ?_
  refine Ya rfl (Zt Yt (Zb rfl) (fun _ => B3.at_ rfl)) ?_
  refine Zx [_, _] rfl Yn Xa (Zp Zl (Zp (Zb rfl) (Yc))) rfl rfl ?_
  intro b16 w16 N16
  have x16_3 := N16.ne B3
  have l16 := newge N16 g.size
  have g := g.trans (PF.of_g (N16.g))
  replace B3 := B3.grow (N16.g)
  have hP := hP.grow (N16.g)
  have B16 := N16.blk
  refine Yd rfl (Zu Zw Yl (Zk (Zb rfl) (Zk (Zb rfl) (Zn))) rfl) (Xd [[42], t.text] hP B16 (by omega) (by first | omega | (simp only [Xec, Xfc, Xgc, Xhc, Xic, Xjc, tabsL, Xkc]; omega) | (simp at hlen ⊢ <;> omega)) (by first | rfl | (simp [ht]; done) | (simpa using ht)) (Nat.le_of_ble_eq_true rfl)) ?_
  rintro v17 w17 ⟨rfl, hP, g17⟩
  refine ⟨fun h => absurd h (by decide), ?_⟩
  have g := g.trans g17
  replace B3 := B3.pf g17 rfl (by omega)
  replace B16 := B16.pf g17 rfl (by omega)
  refine Zj [] (Zd _) ?_
  refine Zh (Xs rfl ?_)
  refine ⟨rfl, ?_, g⟩
  rw [e]; simpa using hP
 (try simp only [bsimp] at h1)
 refine Zg fun K3 hK3 => ?_
 refine Zf [3, 0, 3, 3] ?_
 refine Zc rfl (fun _ => Zm Yw (Zb rfl)) ?_
 refine Ya rfl (Zt Yt (Zb rfl) (fun _ => B3.at_ rfl)) ?_
 refine Zc rfl (fun _ => Yh (Zb rfl) Zl) ?_
 refine Zc rfl (fun _ => Ze (Zb rfl)) ?_
 refine Zj [(0, _, _), (3, _, _), (18, _, _)] (Za rfl (Za rfl (Za rfl (Zd _)))) ?_
 refine Zh (hK3 _ _ ?_)
 refine Zz (Zb rfl) (fun h2 => ?_) (fun h2 => ?_)
 ·have e : typeX t = [99, 104, 97, 110, 32, 105, 110, 116] := by unfold typeX; rw [h1, h2]; rfl
  rw [e] at hlen
  refine Zf [3, 1, 2] ?_
  refine Zc rfl (fun _ => Zi (Zb rfl)) ?_
  refine Zx [_] rfl Yn Xa (Zp Zl (Yc)) rfl rfl ?_
  intro b23 w23 N23
  have x23_3 := N23.ne B3
  have l23 := newge N23 g.size
  have g := g.trans (PF.of_g (N23.g))
  replace B3 := B3.grow (N23.g)
  have hP := hP.grow (N23.g)
  have B23 := N23.blk
  refine Yd rfl (Zu Zw Yl (Zk (Zb rfl) (Zk (Zb rfl) (Zn))) rfl) (Xd [[99, 104, 97, 110, 32, 105, 110, 116]] hP B23 (by omega) (by first | omega | (simp only [Xec, Xfc, Xgc, Xhc, Xic, Xjc, tabsL, Xkc]; omega) | (simp at hlen ⊢ <;> omega)) (by first | rfl | (simp [ht]; done) | (simpa using ht)) (Nat.le_of_ble_eq_true rfl)) ?_
  rintro v24 w24 ⟨rfl, hP, g24⟩
  refine ⟨fun h => absurd h (by decide), ?_⟩
  have g := g.trans g24
  replace B3 := B3.pf g24 rfl (by omega)
  replace B23 := B23.pf g24 rfl (by omega)
  refine Zj [] (Zd _) ?_
  refine Zh (Xs rfl ?_)
  refine ⟨rfl, ?_, g⟩
  rw [e]; simpa using hP
 (try simp only [bsimp] at h2)
 refine Zg fun K4 hK4 => ?_
 refine Zf [3, 0, 3, 3] ?_
 refine Zc rfl (fun _ => Zm Yw (Zb rfl)) ?_
 refine Ya rfl (Zt Yt (Zb rfl) (fun _ => B3.at_ rfl)) ?_
 refine Zc rfl (fun _ => Yh (Zb rfl) Zl) ?_
 refine Zc rfl (fun _ => Ze (Zb rfl)) ?_
 refine Zj [(0, _, _), (3, _, _), (25, _, _)] (Za rfl (Za rfl (Za rfl (Zd _)))) ?_
 refine Zh (hK4 _ _ ?_)
 refine Zz (Zb rfl) (fun h3 => ?_) (fun h3 => ?_)
 ·have e : typeX t = [102, 117, 110, 99, 40, 41] := by unfold typeX; rw [h1, h2, h3]; rfl
  rw [e] at hlen
  refine Zf [3, 1, 2] ?_
  refine Zc rfl (fun _ => Zi (Zb rfl)) ?_
  refine Zx [_] rfl Yn Xa (Zp Zl (Yc)) rfl rfl ?_
  intro b30 w30 N30
  have x30_3 := N30.ne B3
  have l30 := newge N30 g.size
  have g := g.trans (PF.of_g (N30.g))
  replace B3 := B3.grow (N30.g)
  have hP := hP.grow (N30.g)
  have B30 := N30.blk
  refine Yd rfl (Zu Zw Yl (Zk (Zb rfl) (Zk (Zb rfl) (Zn))) rfl) (Xd [[102, 117, 110, 99, 40, 41]] hP B30 (by omega) (by first | omega | (simp only [Xec, Xfc, Xgc, Xhc, Xic, Xjc, tabsL, Xkc]; omega) | (simp at hlen ⊢ <;> omega)) (by first | rfl | (simp [ht]; done) | (simpa using ht)) (Nat.le_of_ble_eq_true rfl)) ?_
  rintro v31 w31 ⟨rfl, hP, g31⟩
  refine ⟨fun h => absurd h (by decide), ?_⟩
  have g := g.trans g31
  replace B3 := B3.pf g31 rfl (by omega)
  replace B30 := B30.pf g31 rfl (by omega)
  refine Zj [] (Zd _) ?_
  refine Zh (Xs rfl ?_)
  refine ⟨rfl, ?_, g⟩
  rw [e]; simpa using hP
 have e : typeX t = t.text := by unfold typeX; rw [h1, h2, h3]; rfl
 rw [e] at hlen
 refine Zf [3, 3, 0, 1, 2] ?_
 refine Zc rfl (fun _ => Zi (Zb rfl)) ?_
 refine Zc rfl (fun _ => Zm Yw (Zb rfl)) ?_
 refine Ya rfl (Zt Yt (Zb rfl) (fun _ => B3.at_ rfl)) ?_
 refine Zx [_] rfl Yn Xa (Zp (Zb rfl) (Yc)) rfl rfl ?_
 intro b7 w7 N7
 have x7_3 := N7.ne B3
 have l7 := newge N7 g.size
 have g := g.trans (PF.of_g (N7.g))
 replace B3 := B3.grow (N7.g)
 have hP := hP.grow (N7.g)
 have B7 := N7.blk
 refine Yd rfl (Zu Zw Yl (Zk (Zb rfl) (Zk (Zb rfl) (Zn))) rfl) (Xd [t.text] hP B7 (by omega) (by first | omega | (simp only [Xec, Xfc, Xgc, Xhc, Xic, Xjc, tabsL, Xkc]; omega) | (simp at hlen ⊢ <;> omega)) (by first | rfl | (simp [ht]; done) | (simpa using ht)) (Nat.le_of_ble_eq_true rfl)) ?_
 rintro v8 w8 ⟨rfl, hP, g8⟩
 refine ⟨fun h => absurd h (by decide), ?_⟩
 have g := g.trans g8
 replace B3 := B3.pf g8 rfl (by omega)
 replace B7 := B7.pf g8 rfl (by omega)
 refine Zj [] (Zd _) ?_
 refine Zh (Xs rfl ?_)
 refine ⟨rfl, ?_, g⟩
 rw [e]; simpa using hP
end Go.Rk
namespace Go.Rk
open Go Go.RowKit
set_option linter.unusedVariables false
theorem Xga {s : List UInt8} (h : nameB s = true) : s ≠ [] := by
 intro e; subst e; revert h; decide
theorem Vu {t : Nd} {f : Nd → Bool} (h : t.kids.all f = true) {i : Nat} (hi : i < t.kids.length) : f (kidAt t i) = true := by
 rw [Xu hi]; exact List.all_eq_true.1 h _ (List.getElem_mem hi)
theorem bin_ne {s : List UInt8} (h : anyS binOps s = true) : s ≠ [] := by
 intro e; subst e; revert h; decide
theorem typ_ne {t : Nd} (h : isTypeB t = true) : t.text ≠ [] := by
 unfold isTypeB at h
 cases h1 : decide (t.kind = 8)
 ·rw [h1] at h
  cases h2 : decide (t.kind = 7)
  ·rw [h2] at h; cases h
  ·rw [h2] at h
   have h : (typeNameB t.text && leafB t) = true := h
   intro e
   rw [e] at h
   revert h
   rw [show typeNameB [] = false by decide]; simp
 ·rw [h1] at h
  have h : (nameB t.text && leafB t) = true := h
  exact Xga (Bool.and_eq_true_iff.1 h).1
theorem typ_len {t : Nd} (h : isTypeB t = true) : t.kids.length = 0 := by
 unfold isTypeB at h
 cases h1 : decide (t.kind = 8)
 ·rw [h1] at h
  cases h2 : decide (t.kind = 7)
  ·rw [h2] at h; cases h
  ·rw [h2] at h
   have h : (typeNameB t.text && leafB t) = true := h
   have := (Bool.and_eq_true_iff.1 h).2
   unfold leafB at this; simp at this; simp [this]
 ·rw [h1] at h
  have h : (nameB t.text && leafB t) = true := h
  have := (Bool.and_eq_true_iff.1 h).2
  unfold leafB at this; simp at this; simp [this]
theorem Qn {t : Nd} (h : noneB t = true) : t.kind = 9 ∧ t.text = [] ∧ t.kids.length = 0 := by
 unfold noneB at h
 simp only [Bool.and_eq_true, decide_eq_true_eq] at h
 exact ⟨h.1.1, h.1.2, by simpa [lenK] using h.2⟩
theorem Yjb {t : Nd} (h : exprB t = true) : t.kind ≠ 9 := by
 intro e
 unfold exprB at h
 rw [e] at h
 have h : (expK 9 && permF t) = true := h
 rw [show expK 9 = false by decide] at h; cases h
theorem typ_not_none {t : Nd} (h : isTypeB t = true) : t.kind ≠ 9 := by
 intro e
 unfold isTypeB at h
 rw [e] at h; cases h
theorem kind_e {t : Nd} {k : Int} (h : kindB t k = true) : t.kind = k ∧ exprB t = true := by
 unfold kindB at h
 simp only [Bool.and_eq_true, decide_eq_true_eq] at h
 exact h
theorem Yca {t : Nd} (h : blockB t = true) : t.kind = 10 := of_decide_eq_true (Bool.and_eq_true_iff.1 h).1
theorem sh24 {t : Nd} (h : t.kind = 24) (hx : exprB t = true) : 0 ≤ t.num := by
 rw [← Ve] at hx; unfold Wx at hx; rw [h] at hx
 have hx : ((plainB t && lenK t 0) && decide (0 ≤ t.num)) = true := hx
 simp only [Bool.and_eq_true, Bool.or_eq_true, decide_eq_true_eq] at hx
 exact hx.2
theorem sh25 {t : Nd} (h : t.kind = 25) (hx : exprB t = true) : t.num = 0 ∨ t.num = 1 := by
 rw [← Ve] at hx; unfold Wx at hx; rw [h] at hx
 have hx : ((plainB t && lenK t 0) && (decide (t.num = 0) || decide (t.num = 1))) = true := hx
 simp only [Bool.and_eq_true, Bool.or_eq_true, decide_eq_true_eq] at hx
 exact hx.2
theorem sh27 {t : Nd} (h : t.kind = 27) (hx : exprB t = true) : t.text ≠ [] := by
 rw [← Ve] at hx; unfold Wx at hx; rw [h] at hx
 have hx : (nameB t.text && lenK t 0) = true := hx
 simp only [Bool.and_eq_true, Bool.or_eq_true, decide_eq_true_eq] at hx
 exact Xga hx.1
theorem sh34 {t : Nd} (h : t.kind = 34) (hx : exprB t = true) : t.text ≠ [] := by
 rw [← Ve] at hx; unfold Wx at hx; rw [h] at hx
 have hx : (nameB t.text && lenK t 0) = true := hx
 simp only [Bool.and_eq_true, Bool.or_eq_true, decide_eq_true_eq] at hx
 exact Xga hx.1
theorem sh28 {t : Nd} (h : t.kind = 28) (hx : exprB t = true) : t.text ≠ [] ∧ t.kids.length = 1 ∧ exprB (kidAt t 0) = true := by
 rw [← Ve] at hx; unfold Wx at hx; rw [h] at hx
 have hx : ((nameB t.text && lenK t 1) && exprB (kidAt t 0)) = true := hx
 simp only [Bool.and_eq_true, Bool.or_eq_true, decide_eq_true_eq] at hx
 exact ⟨Xga hx.1.1, by (have hz := hx.1.2; first | (unfold lenK at hz; simp at hz; omega) | (simp at hz; omega)), hx.2⟩
theorem sh29 {t : Nd} (h : t.kind = 29) (hx : exprB t = true) : t.kids.length = 2 ∧ exprB (kidAt t 0) = true ∧ exprB (kidAt t 1) = true := by
 rw [← Ve] at hx; unfold Wx at hx; rw [h] at hx
 have hx : ((plainB t && lenK t 2) && t.kids.all exprB) = true := hx
 simp only [Bool.and_eq_true, Bool.or_eq_true, decide_eq_true_eq] at hx
 exact ⟨by (have hz := hx.1.2; first | (unfold lenK at hz; simp at hz; omega) | (simp at hz; omega)), Vu hx.2 (by (have hz := hx.1.2; first | (unfold lenK at hz; simp at hz; omega) | (simp at hz; omega))), Vu hx.2 (by (have hz := hx.1.2; first | (unfold lenK at hz; simp at hz; omega) | (simp at hz; omega)))⟩
theorem sh30 {t : Nd} (h : t.kind = 30) (hx : exprB t = true) : 1 ≤ t.kids.length ∧ t.kids.all exprB = true := by
 rw [← Ve] at hx; unfold Wx at hx; rw [h] at hx
 have hx : ((plainB t && decide (1 ≤ (t.kids.length : Int))) && t.kids.all exprB) = true := hx
 simp only [Bool.and_eq_true, Bool.or_eq_true, decide_eq_true_eq] at hx
 exact ⟨by have := hx.1.2; omega, hx.2⟩
theorem sh31 {t : Nd} (h : t.kind = 31) (hx : exprB t = true) : t.text ≠ [] ∧ t.kids.length = 1 ∧ exprB (kidAt t 0) = true := by
 rw [← Ve] at hx; unfold Wx at hx; rw [h] at hx
 have hx : (((decide (t.text = [45]) || decide (t.text = [33])) && lenK t 1) && exprB (kidAt t 0)) = true := hx
 simp only [Bool.and_eq_true, Bool.or_eq_true, decide_eq_true_eq] at hx
 exact ⟨by rcases hx.1.1 with e | e <;> rw [e] <;> simp, by (have hz := hx.1.2; first | (unfold lenK at hz; simp at hz; omega) | (simp at hz; omega)), hx.2⟩
theorem sh32 {t : Nd} (h : t.kind = 32) (hx : exprB t = true) : t.text ≠ [] ∧ t.kids.length = 2 ∧ exprB (kidAt t 0) = true ∧ exprB (kidAt t 1) = true := by
 rw [← Ve] at hx; unfold Wx at hx; rw [h] at hx
 have hx : ((anyS binOps t.text && lenK t 2) && t.kids.all exprB) = true := hx
 simp only [Bool.and_eq_true, Bool.or_eq_true, decide_eq_true_eq] at hx
 exact ⟨bin_ne hx.1.1, by (have hz := hx.1.2; first | (unfold lenK at hz; simp at hz; omega) | (simp at hz; omega)), Vu hx.2 (by (have hz := hx.1.2; first | (unfold lenK at hz; simp at hz; omega) | (simp at hz; omega))), Vu hx.2 (by (have hz := hx.1.2; first | (unfold lenK at hz; simp at hz; omega) | (simp at hz; omega)))⟩
theorem sh33 {t : Nd} (h : t.kind = 33) (hx : exprB t = true) : t.kids.length = 1 ∧ exprB (kidAt t 0) = true := by
 rw [← Ve] at hx; unfold Wx at hx; rw [h] at hx
 have hx : ((plainB t && lenK t 1) && exprB (kidAt t 0)) = true := hx
 simp only [Bool.and_eq_true, Bool.or_eq_true, decide_eq_true_eq] at hx
 exact ⟨by (have hz := hx.1.2; first | (unfold lenK at hz; simp at hz; omega) | (simp at hz; omega)), hx.2⟩
theorem sh35 {t : Nd} (h : t.kind = 35) (hx : exprB t = true) : t.kids.length = 1 ∧ exprB (kidAt t 0) = true := by
 rw [← Ve] at hx; unfold Wx at hx; rw [h] at hx
 have hx : ((plainB t && lenK t 1) && exprB (kidAt t 0)) = true := hx
 simp only [Bool.and_eq_true, Bool.or_eq_true, decide_eq_true_eq] at hx
 exact ⟨by (have hz := hx.1.2; first | (unfold lenK at hz; simp at hz; omega) | (simp at hz; omega)), hx.2⟩
theorem sh36 {t : Nd} (h : t.kind = 36) (hx : exprB t = true) : t.kids.length = 1 ∧ exprB (kidAt t 0) = true := by
 rw [← Ve] at hx; unfold Wx at hx; rw [h] at hx
 have hx : ((plainB t && lenK t 1) && exprB (kidAt t 0)) = true := hx
 simp only [Bool.and_eq_true, Bool.or_eq_true, decide_eq_true_eq] at hx
 exact ⟨by (have hz := hx.1.2; first | (unfold lenK at hz; simp at hz; omega) | (simp at hz; omega)), hx.2⟩
theorem sh37 {t : Nd} (h : t.kind = 37) (hx : exprB t = true) : t.kids.length = 1 ∧ exprB (kidAt t 0) = true := by
 rw [← Ve] at hx; unfold Wx at hx; rw [h] at hx
 have hx : ((plainB t && lenK t 1) && exprB (kidAt t 0)) = true := hx
 simp only [Bool.and_eq_true, Bool.or_eq_true, decide_eq_true_eq] at hx
 exact ⟨by (have hz := hx.1.2; first | (unfold lenK at hz; simp at hz; omega) | (simp at hz; omega)), hx.2⟩
theorem sh38 {t : Nd} (h : t.kind = 38) (hx : exprB t = true) : t.kids.length = 1 ∧ blockB (kidAt t 0) = true := by
 rw [← Ve] at hx; unfold Wx at hx; rw [h] at hx
 have hx : ((plainB t && lenK t 1) && blockB (kidAt t 0)) = true := hx
 simp only [Bool.and_eq_true, Bool.or_eq_true, decide_eq_true_eq] at hx
 exact ⟨by (have hz := hx.1.2; first | (unfold lenK at hz; simp at hz; omega) | (simp at hz; omega)), hx.2⟩
theorem sh11 {t : Nd} (h : t.kind = 11) (hx : stmtB t = true) : t.text ≠ [] ∧ t.kids.length = 1 ∧ exprB (kidAt t 0) = true := by
 rw [← Vr] at hx; unfold refStmt at hx; rw [h] at hx
 have hx : ((nameB t.text && lenK t 1) && exprB (kidAt t 0)) = true := hx
 simp only [Bool.and_eq_true, Bool.or_eq_true, decide_eq_true_eq] at hx
 exact ⟨Xga hx.1.1, by (have hz := hx.1.2; first | (unfold lenK at hz; simp at hz; omega) | (simp at hz; omega)), hx.2⟩
theorem sh12 {t : Nd} (h : t.kind = 12) (hx : stmtB t = true) : t.kids.length = 2 ∧ exprB (kidAt t 0) = true ∧ exprB (kidAt t 1) = true := by
 rw [← Vr] at hx; unfold refStmt at hx; rw [h] at hx
 have hx : ((plainB t && lenK t 2) && t.kids.all exprB) = true := hx
 simp only [Bool.and_eq_true, Bool.or_eq_true, decide_eq_true_eq] at hx
 exact ⟨by (have hz := hx.1.2; first | (unfold lenK at hz; simp at hz; omega) | (simp at hz; omega)), Vu hx.2 (by (have hz := hx.1.2; first | (unfold lenK at hz; simp at hz; omega) | (simp at hz; omega))), Vu hx.2 (by (have hz := hx.1.2; first | (unfold lenK at hz; simp at hz; omega) | (simp at hz; omega)))⟩
theorem sh16 {t : Nd} (h : t.kind = 16) (hx : stmtB t = true) : t.kids.length = 2 ∧ exprB (kidAt t 0) = true ∧ exprB (kidAt t 1) = true := by
 rw [← Vr] at hx; unfold refStmt at hx; rw [h] at hx
 have hx : ((plainB t && lenK t 2) && t.kids.all exprB) = true := hx
 simp only [Bool.and_eq_true, Bool.or_eq_true, decide_eq_true_eq] at hx
 exact ⟨by (have hz := hx.1.2; first | (unfold lenK at hz; simp at hz; omega) | (simp at hz; omega)), Vu hx.2 (by (have hz := hx.1.2; first | (unfold lenK at hz; simp at hz; omega) | (simp at hz; omega))), Vu hx.2 (by (have hz := hx.1.2; first | (unfold lenK at hz; simp at hz; omega) | (simp at hz; omega)))⟩
theorem sh13 {t : Nd} (h : t.kind = 13) (hx : stmtB t = true) : t.kids.length = 1 ∧ exprB (kidAt t 0) = true := by
 rw [← Vr] at hx; unfold refStmt at hx; rw [h] at hx
 have hx : ((plainB t && lenK t 1) && (kindB (kidAt t 0) 30 || kindB (kidAt t 0) 33)) = true := hx
 simp only [Bool.and_eq_true, Bool.or_eq_true, decide_eq_true_eq] at hx
 exact ⟨by (have hz := hx.1.2; first | (unfold lenK at hz; simp at hz; omega) | (simp at hz; omega)), hx.2.elim (fun h => (kind_e h).2) (fun h => (kind_e h).2)⟩
theorem sh14 {t : Nd} (h : t.kind = 14) (hx : stmtB t = true) : t.kids.length = 1 ∧ exprB (kidAt t 0) = true := by
 rw [← Vr] at hx; unfold refStmt at hx; rw [h] at hx
 have hx : ((plainB t && lenK t 1) && kindB (kidAt t 0) 30) = true := hx
 simp only [Bool.and_eq_true, Bool.or_eq_true, decide_eq_true_eq] at hx
 exact ⟨by (have hz := hx.1.2; first | (unfold lenK at hz; simp at hz; omega) | (simp at hz; omega)), (kind_e hx.2).2⟩
theorem sh15 {t : Nd} (h : t.kind = 15) (hx : stmtB t = true) : t.kids.length = 1 ∧ exprB (kidAt t 0) = true := by
 rw [← Vr] at hx; unfold refStmt at hx; rw [h] at hx
 have hx : ((plainB t && lenK t 1) && kindB (kidAt t 0) 30) = true := hx
 simp only [Bool.and_eq_true, Bool.or_eq_true, decide_eq_true_eq] at hx
 exact ⟨by (have hz := hx.1.2; first | (unfold lenK at hz; simp at hz; omega) | (simp at hz; omega)), (kind_e hx.2).2⟩
theorem sh17 {t : Nd} (h : t.kind = 17) (hx : stmtB t = true) : t.kids.length = 1 ∧ exprB (kidAt t 0) = true := by
 rw [← Vr] at hx; unfold refStmt at hx; rw [h] at hx
 have hx : ((plainB t && lenK t 1) && exprB (kidAt t 0)) = true := hx
 simp only [Bool.and_eq_true, Bool.or_eq_true, decide_eq_true_eq] at hx
 exact ⟨by (have hz := hx.1.2; first | (unfold lenK at hz; simp at hz; omega) | (simp at hz; omega)), hx.2⟩
theorem sh21 {t : Nd} (h : t.kind = 21) (hx : stmtB t = true) : t.kids.length = 1 ∧ exprB (kidAt t 0) = true := by
 rw [← Vr] at hx; unfold refStmt at hx; rw [h] at hx
 have hx : ((plainB t && lenK t 1) && exprB (kidAt t 0)) = true := hx
 simp only [Bool.and_eq_true, Bool.or_eq_true, decide_eq_true_eq] at hx
 exact ⟨by (have hz := hx.1.2; first | (unfold lenK at hz; simp at hz; omega) | (simp at hz; omega)), hx.2⟩
theorem sh20 {t : Nd} (h : t.kind = 20) (hx : stmtB t = true) : t.kids.length ≤ 1 ∧ t.kids.all exprB = true := by
 rw [← Vr] at hx; unfold refStmt at hx; rw [h] at hx
 have hx : ((plainB t && decide ((t.kids.length : Int) ≤ 1)) && t.kids.all exprB) = true := hx
 simp only [Bool.and_eq_true, Bool.or_eq_true, decide_eq_true_eq] at hx
 exact ⟨by have := hx.1.2; omega, hx.2⟩
theorem sh19 {t : Nd} (h : t.kind = 19) (hx : stmtB t = true) : t.kids.length = 2 ∧ (noneB (kidAt t 0) = true ∨ exprB (kidAt t 0) = true) ∧ blockB (kidAt t 1) = true := by
 rw [← Vr] at hx; unfold refStmt at hx; rw [h] at hx
 have hx : (((plainB t && lenK t 2) && (noneB (kidAt t 0) || exprB (kidAt t 0))) && blockB (kidAt t 1)) = true := hx
 simp only [Bool.and_eq_true, Bool.or_eq_true, decide_eq_true_eq] at hx
 exact ⟨by (have hz := hx.1.1.2; first | (unfold lenK at hz; simp at hz; omega) | (simp at hz; omega)), hx.1.2, hx.2⟩
theorem sh6s {t : Nd} (h : t.kind = 6) (hx : stmtB t = true) : varB t = true := by
 rw [← Vr] at hx; unfold refStmt at hx; rw [h] at hx
 have hx : (varB t) = true := hx
 exact hx
theorem sh10s {t : Nd} (h : t.kind = 10) (hx : stmtB t = true) : blockB t = true := by
 rw [← Vr] at hx; unfold refStmt at hx; rw [h] at hx
 have hx : (blockB t) = true := hx
 exact hx
theorem sh18s {t : Nd} (h : t.kind = 18) (hx : stmtB t = true) : ifB t = true := by
 rw [← Vr] at hx; unfold refStmt at hx; rw [h] at hx
 have hx : (ifB t) = true := hx
 exact hx
theorem sh10 {t : Nd} (hx : blockB t = true) : t.kids.all stmtB = true := by
 rw [← Ukb, Wgb] at hx
 cases h : (!decide (t.kind = 10) || !plainB t)
 ·rw [h] at hx; exact hx
 ·rw [h] at hx; cases hx
theorem sh18 {t : Nd} (hx : ifB t = true) : t.kids.length = 3 ∧ exprB (kidAt t 0) = true ∧ blockB (kidAt t 1) = true ∧ (blockB (kidAt t 2) = true ∨ ifB (kidAt t 2) = true ∨ noneB (kidAt t 2) = true) := by
 rw [← refIf_eq, refIf] at hx
 cases h : ((!decide (t.kind = 18) || !plainB t) || !lenK t 3)
 ·rw [h, cond_false] at hx
  simp only [Bool.and_eq_true, Bool.or_eq_true] at hx
  simp only [Bool.or_eq_false_iff, Bool.not_eq_false'] at h
  exact ⟨by (have hz := h.2; first | (unfold lenK at hz; simp at hz; omega) | (simp at hz; omega)), hx.1.1, hx.1.2, hx.2.elim (fun h => h.elim .inl fun h => .inr (.inl h)) fun h => .inr (.inr h)⟩
 ·rw [h] at hx; cases hx
theorem sh6 {t : Nd} (hx : varB t = true) : t.text ≠ [] ∧ t.kids.length = 2 ∧ isTypeB (kidAt t 0) = true ∧ (noneB (kidAt t 1) = true ∨ exprB (kidAt t 1) = true) := by
 rw [← refVar_eq, refVar] at hx
 simp only [Bool.and_eq_true, Bool.or_eq_true] at hx
 exact ⟨Xga hx.1.1.1.2, by (have hz := hx.1.1.2; first | (unfold lenK at hz; simp at hz; omega) | (simp at hz; omega)), hx.1.2, hx.2⟩
theorem sh22 {t : Nd} (h : t.kind = 22) (hx : stmtB t = true) : t.kids.all caseB = true := by
 have hp : permF t = true := (Bool.and_eq_true_iff.1 hx).2
 rw [← Wib h] at hp
 exact (Bool.and_eq_true_iff.1 hp).1
theorem sh23 {t : Nd} (hx : caseB t = true) : t.kind = 23 ∧ t.kids.length = 2 ∧ commF (kidAt t 0) = true ∧ blockB (kidAt t 1) = true := by
 unfold caseB at hx
 simp only [Bool.and_eq_true, decide_eq_true_eq] at hx
 exact ⟨hx.1.1.1.1, by (have hz := hx.1.1.2; first | (unfold lenK at hz; simp at hz; omega) | (simp at hz; omega)), hx.1.2, hx.2⟩
theorem sh3 {t : Nd} (hx : fieldB t = true) : t.kind = 3 ∧ t.text ≠ [] ∧ t.kids.length = 1 ∧ isTypeB (kidAt t 0) = true := by
 have h := congrArg not hx
 rw [Ytb] at h
 simp only [Bool.or_eq_false_iff, Bool.not_eq_false', Bool.not_true, decide_eq_true_eq] at h
 exact ⟨h.1.1.1, Xga h.1.1.2, by (have hz := h.1.2; first | (unfold lenK at hz; simp at hz; omega) | (simp at hz; omega)), h.2⟩
theorem Vtb {t : Nd} (h : commF t = true) : t.kind = 9 ∨ stmtB t = true := by
 rw [← Ygc, Wsa] at h
 cases h1 : anyK [16, 9] t.kind
 ·rw [h1, cond_false] at h
  cases h2 : decide (t.kind = 13)
  ·rw [h2, cond_false] at h
   cases h3 : decide (t.kind = 12)
   ·rw [h3, cond_false] at h
    cases h4 : decide (t.kind = 11)
    ·rw [h4] at h; cases h
    ·rw [h4] at h; exact .inr (Bool.and_eq_true_iff.1 h).1
   ·rw [h3] at h; exact .inr (Bool.and_eq_true_iff.1 h).1
  ·rw [h2] at h; exact .inr (Bool.and_eq_true_iff.1 h).1
 ·rw [h1, cond_true, Bool.or_eq_true] at h
  exact h.elim .inr fun h => .inl (Qn h).1
end Go.Rk
namespace Go.Rk
open Go Go.RowKit
set_option linter.unusedVariables false
def exT (t : Nd) (k : Nat) : List UInt8 := (txT t).ex k
def stT (t : Nd) (k : Nat) : List UInt8 := (txT t).st k
def blkT (t : Nd) (k : Nat) : List UInt8 := blkX (txT t) k
theorem memK_1 (a k : Int) : memK [a] k = decide (k = a) := by simp [memK]
theorem memK_3 (k : Int) : memK [32, 31, 33] k = ((decide (k = 32) || decide (k = 31)) || decide (k = 33)) := by
 unfold memK; by_cases h1 : k = 32 <;> by_cases h2 : k = 31 <;> by_cases h3 : k = 33 <;> simp [h1, h2, h3]
theorem Xna (f : Nd → List UInt8) {t : Nd} (h : t.kids.length = 1) : joinX (t.kids.map f) = f (kidAt t 0) := by
 obtain ⟨a, ha⟩ := List.length_eq_one_iff.1 h
 rw [show kidAt t 0 = a by simp [kidAt, ha], ha]; simp [joinX]
theorem opr_eq {t : Nd} {i : Nat} (h : i < t.kids.length) (k : Nat) : oprX t (fun i => (t.kids.map txT).getD i tx0) i k = parX (memK [32] (kidAt t i).kind) (exT (kidAt t i) k) := by
 rw [oprX, memK_1]; show parX _ (((t.kids.map txT).getD i tx0).ex k) = _; rw [Ync h]; rfl
theorem bas_eq {t : Nd} (h : 0 < t.kids.length) (k : Nat) : basX t (fun i => (t.kids.map txT).getD i tx0) k = parX (memK [32, 31, 33] (kidAt t 0).kind) (exT (kidAt t 0) k) := by
 rw [basX, memK_3]; show parX _ (((t.kids.map txT).getD 0 tx0).ex k) = _; rw [Ync h]; rfl
theorem Qma {t : Nd} {i : Nat} (h : i < t.kids.length) (k : Nat) : ((t.kids.map txT).getD i tx0).ex k = exT (kidAt t i) k := by rw [Ync h]; rfl
theorem x_st {t : Nd} {i : Nat} (h : i < t.kids.length) (k : Nat) : ((t.kids.map txT).getD i tx0).st k = stT (kidAt t i) k := by rw [Ync h]; rfl
theorem x_ls {t : Nd} {i : Nat} (h : i < t.kids.length) (k : Nat) : ((t.kids.map txT).getD i tx0).ls k = (txT (kidAt t i)).ls k := by rw [Ync h]
theorem x_blk {t : Nd} {i : Nat} (h : i < t.kids.length) (k : Nat) : blkX ((t.kids.map txT).getD i tx0) k = blkT (kidAt t i) k := by rw [Ync h]; rfl
theorem drop_ex (t : Nd) (k : Nat) : (((t.kids.map txT).drop 1).map fun y => y.ex k) = (t.kids.drop 1).map fun y => exT y k := by
 rw [← List.map_drop, List.map_map]; rfl
theorem exT_24 {t : Nd} (h : t.kind = 24) (k : Nat) : exT t k = digL t.num.toNat := by
 unfold exT; rw [Wm]; show exX t (fun i => (t.kids.map txT).getD i tx0) (t.kids.map txT) k = _
 unfold exX; rw [h]
 rfl
theorem exT_25 {t : Nd} (h : t.kind = 25) (k : Nat) : exT t k = bif decide (t.num = 1) then [116, 114, 117, 101] else [102, 97, 108, 115, 101] := by
 unfold exT; rw [Wm]; show exX t (fun i => (t.kids.map txT).getD i tx0) (t.kids.map txT) k = _
 unfold exX; rw [h]
 rfl
theorem exT_26 {t : Nd} (h : t.kind = 26) (k : Nat) : exT t k = [110, 105, 108] := by
 unfold exT; rw [Wm]; show exX t (fun i => (t.kids.map txT).getD i tx0) (t.kids.map txT) k = _
 unfold exX; rw [h]
 rfl
theorem exT_27 {t : Nd} (h : t.kind = 27) (k : Nat) : exT t k = t.text := by
 unfold exT; rw [Wm]; show exX t (fun i => (t.kids.map txT).getD i tx0) (t.kids.map txT) k = _
 unfold exX; rw [h]
 rfl
theorem exT_34 {t : Nd} (h : t.kind = 34) (k : Nat) : exT t k = ([110, 101, 119, 40] ++ t.text) ++ [41] := by
 unfold exT; rw [Wm]; show exX t (fun i => (t.kids.map txT).getD i tx0) (t.kids.map txT) k = _
 unfold exX; rw [h]
 rfl
theorem exT_28 {t : Nd} (h : t.kind = 28) (hl : t.kids.length = 1) (k : Nat) : exT t k = (parX (memK [32, 31, 33] (kidAt t 0).kind) (exT (kidAt t 0) k) ++ [46]) ++ t.text := by
 unfold exT; rw [Wm]; show exX t (fun i => (t.kids.map txT).getD i tx0) (t.kids.map txT) k = _
 unfold exX; rw [h]; rw [bas_eq (by omega)]
 rfl
theorem exT_29 {t : Nd} (h : t.kind = 29) (hl : t.kids.length = 2) (k : Nat) : exT t k = ((parX (memK [32, 31, 33] (kidAt t 0).kind) (exT (kidAt t 0) k) ++ [91]) ++ exT (kidAt t 1) k) ++ [93] := by
 unfold exT; rw [Wm]; show exX t (fun i => (t.kids.map txT).getD i tx0) (t.kids.map txT) k = _
 unfold exX; rw [h]; rw [bas_eq (by omega)]; rw [Qma (i := 1) (by omega)]
 rfl
theorem exT_30 {t : Nd} (h : t.kind = 30) (hl : 1 ≤ t.kids.length) (k : Nat) : exT t k = ((parX (memK [32, 31, 33] (kidAt t 0).kind) (exT (kidAt t 0) k) ++ [40]) ++ joinX ((t.kids.drop 1).map fun y => exT y k)) ++ [41] := by
 unfold exT; rw [Wm]; show exX t (fun i => (t.kids.map txT).getD i tx0) (t.kids.map txT) k = _
 unfold exX; rw [h]; rw [bas_eq (by omega)]; rw [drop_ex]
 rfl
theorem exT_31 {t : Nd} (h : t.kind = 31) (hl : t.kids.length = 1) (k : Nat) : exT t k = t.text ++ parX (memK [32] (kidAt t 0).kind) (exT (kidAt t 0) k) := by
 unfold exT; rw [Wm]; show exX t (fun i => (t.kids.map txT).getD i tx0) (t.kids.map txT) k = _
 unfold exX; rw [h]; rw [opr_eq (i := 0) (by omega)]
 rfl
theorem exT_33 {t : Nd} (h : t.kind = 33) (hl : t.kids.length = 1) (k : Nat) : exT t k = [60, 45] ++ parX (memK [32] (kidAt t 0).kind) (exT (kidAt t 0) k) := by
 unfold exT; rw [Wm]; show exX t (fun i => (t.kids.map txT).getD i tx0) (t.kids.map txT) k = _
 unfold exX; rw [h]; rw [opr_eq (i := 0) (by omega)]
 rfl
theorem exT_32 {t : Nd} (h : t.kind = 32) (hl : t.kids.length = 2) (k : Nat) : exT t k = (((parX (memK [32] (kidAt t 0).kind) (exT (kidAt t 0) k) ++ [32]) ++ t.text) ++ [32]) ++ parX (memK [32] (kidAt t 1).kind) (exT (kidAt t 1) k) := by
 unfold exT; rw [Wm]; show exX t (fun i => (t.kids.map txT).getD i tx0) (t.kids.map txT) k = _
 unfold exX; rw [h]; rw [opr_eq (i := 0) (by omega)]; rw [opr_eq (i := 1) (by omega)]
 rfl
theorem exT_35 {t : Nd} (h : t.kind = 35) (hl : t.kids.length = 1) (k : Nat) : exT t k = ([109, 97, 107, 101, 40, 91, 93, 105, 110, 116, 44, 32] ++ joinX (t.kids.map fun y => exT y k)) ++ [41] := by
 unfold exT; rw [Wm]; show exX t (fun i => (t.kids.map txT).getD i tx0) (t.kids.map txT) k = _
 unfold exX; rw [h]; rw [Qma (i := 0) (by omega)]; rw [Xna _ hl]
 rfl
theorem exT_36 {t : Nd} (h : t.kind = 36) (hl : t.kids.length = 1) (k : Nat) : exT t k = ([109, 97, 107, 101, 40, 99, 104, 97, 110, 32, 105, 110, 116, 44, 32] ++ joinX (t.kids.map fun y => exT y k)) ++ [41] := by
 unfold exT; rw [Wm]; show exX t (fun i => (t.kids.map txT).getD i tx0) (t.kids.map txT) k = _
 unfold exX; rw [h]; rw [Qma (i := 0) (by omega)]; rw [Xna _ hl]
 rfl
theorem exT_37 {t : Nd} (h : t.kind = 37) (hl : t.kids.length = 1) (k : Nat) : exT t k = ([108, 101, 110, 40] ++ joinX (t.kids.map fun y => exT y k)) ++ [41] := by
 unfold exT; rw [Wm]; show exX t (fun i => (t.kids.map txT).getD i tx0) (t.kids.map txT) k = _
 unfold exX; rw [h]; rw [Qma (i := 0) (by omega)]; rw [Xna _ hl]
 rfl
theorem exT_38 {t : Nd} (h : t.kind = 38) (hl : t.kids.length = 1) (k : Nat) : exT t k = [102, 117, 110, 99, 40, 41, 32] ++ blkT (kidAt t 0) k := by
 unfold exT; rw [Wm]; show exX t (fun i => (t.kids.map txT).getD i tx0) (t.kids.map txT) k = _
 unfold exX; rw [h]; rw [x_blk (i := 0) (by omega)]
 rfl
theorem stT_11 {t : Nd} (h : t.kind = 11) (hl : t.kids.length = 1) (k : Nat) : stT t k = (t.text ++ [32, 58, 61, 32]) ++ exT (kidAt t 0) k := by
 unfold stT; rw [Wm]; show stX t (fun i => (t.kids.map txT).getD i tx0) (t.kids.map txT) k = _
 unfold stX; rw [h]; rw [Qma (i := 0) (by omega)]
 rfl
theorem stT_12 {t : Nd} (h : t.kind = 12) (hl : t.kids.length = 2) (k : Nat) : stT t k = (exT (kidAt t 0) k ++ [32, 61, 32]) ++ exT (kidAt t 1) k := by
 unfold stT; rw [Wm]; show stX t (fun i => (t.kids.map txT).getD i tx0) (t.kids.map txT) k = _
 unfold stX; rw [h]; rw [Qma (i := 0) (by omega)]; rw [Qma (i := 1) (by omega)]
 rfl
theorem stT_16 {t : Nd} (h : t.kind = 16) (hl : t.kids.length = 2) (k : Nat) : stT t k = (exT (kidAt t 0) k ++ [32, 60, 45, 32]) ++ exT (kidAt t 1) k := by
 unfold stT; rw [Wm]; show stX t (fun i => (t.kids.map txT).getD i tx0) (t.kids.map txT) k = _
 unfold stX; rw [h]; rw [Qma (i := 0) (by omega)]; rw [Qma (i := 1) (by omega)]
 rfl
theorem stT_13 {t : Nd} (h : t.kind = 13) (hl : t.kids.length = 1) (k : Nat) : stT t k = exT (kidAt t 0) k := by
 unfold stT; rw [Wm]; show stX t (fun i => (t.kids.map txT).getD i tx0) (t.kids.map txT) k = _
 unfold stX; rw [h]; rw [Qma (i := 0) (by omega)]
 rfl
theorem stT_14 {t : Nd} (h : t.kind = 14) (hl : t.kids.length = 1) (k : Nat) : stT t k = [103, 111, 32] ++ exT (kidAt t 0) k := by
 unfold stT; rw [Wm]; show stX t (fun i => (t.kids.map txT).getD i tx0) (t.kids.map txT) k = _
 unfold stX; rw [h]; rw [Qma (i := 0) (by omega)]
 rfl
theorem stT_15 {t : Nd} (h : t.kind = 15) (hl : t.kids.length = 1) (k : Nat) : stT t k = [100, 101, 102, 101, 114, 32] ++ exT (kidAt t 0) k := by
 unfold stT; rw [Wm]; show stX t (fun i => (t.kids.map txT).getD i tx0) (t.kids.map txT) k = _
 unfold stX; rw [h]; rw [Qma (i := 0) (by omega)]
 rfl
theorem stT_17 {t : Nd} (h : t.kind = 17) (hl : t.kids.length = 1) (k : Nat) : stT t k = ([99, 108, 111, 115, 101, 40] ++ joinX (t.kids.map fun y => exT y k)) ++ [41] := by
 unfold stT; rw [Wm]; show stX t (fun i => (t.kids.map txT).getD i tx0) (t.kids.map txT) k = _
 unfold stX; rw [h]; rw [Qma (i := 0) (by omega)]; rw [Xna _ hl]
 rfl
theorem stT_21 {t : Nd} (h : t.kind = 21) (hl : t.kids.length = 1) (k : Nat) : stT t k = ([112, 114, 105, 110, 116, 40] ++ joinX (t.kids.map fun y => exT y k)) ++ [41] := by
 unfold stT; rw [Wm]; show stX t (fun i => (t.kids.map txT).getD i tx0) (t.kids.map txT) k = _
 unfold stX; rw [h]; rw [Qma (i := 0) (by omega)]; rw [Xna _ hl]
 rfl
theorem stT_20n {t : Nd} (h : t.kind = 20) (hl : t.kids.length = 0) (k : Nat) : stT t k = [114, 101, 116, 117, 114, 110] := by
 unfold stT; rw [Wm]; show stX t (fun i => (t.kids.map txT).getD i tx0) (t.kids.map txT) k = _
 unfold stX lenK; rw [h, hl]
 rfl
theorem stT_20 {t : Nd} (h : t.kind = 20) (hl : t.kids.length = 1) (k : Nat) : stT t k = ([114, 101, 116, 117, 114, 110] ++ [32]) ++ joinX (t.kids.map fun y => exT y k) := by
 unfold stT; rw [Wm]; show stX t (fun i => (t.kids.map txT).getD i tx0) (t.kids.map txT) k = _
 unfold stX lenK; rw [h, hl, Qma (i := 0) (by omega), Xna _ hl]
 rfl
theorem stT_10 {t : Nd} (h : t.kind = 10) (k : Nat) : stT t k = blkT t k := by
 unfold stT blkT; rw [Wm]; show stX t (fun i => (t.kids.map txT).getD i tx0) (t.kids.map txT) k = _
 unfold stX; rw [h]
 rfl
theorem stT_6 {t : Nd} (h : t.kind = 6) (hl : t.kids.length = 2) (k : Nat) : stT t k = ((([118, 97, 114, 32] ++ t.text) ++ [32]) ++ typeX (kidAt t 0)) ++ (bif decide ((kidAt t 1).kind = 9) then [] else [32, 61, 32] ++ exT (kidAt t 1) k) := by
 unfold stT; rw [Wm]; show stX t (fun i => (t.kids.map txT).getD i tx0) (t.kids.map txT) k = _
 unfold stX varX; rw [h, Qma (i := 1) (by omega)]
 rfl
theorem stT_18 {t : Nd} (h : t.kind = 18) (hl : t.kids.length = 3) (hk : (kidAt t 2).kind = 10 ∨ (kidAt t 2).kind = 18 ∨ (kidAt t 2).kind = 9) (k : Nat) : stT t k = ((([105, 102, 32] ++ exT (kidAt t 0) k) ++ [32]) ++ blkT (kidAt t 1) k) ++ (bif decide ((kidAt t 2).kind = 9) then [] else [32, 101, 108, 115, 101, 32] ++ stT (kidAt t 2) k) := by
 have e : stT t k = ifX t (fun i => (t.kids.map txT).getD i tx0) k := by
  unfold stT; rw [Wm]; show stX t (fun i => (t.kids.map txT).getD i tx0) (t.kids.map txT) k = _
  unfold stX; rw [h]; rfl
 rw [e, ifX, Qma (i := 0) (by omega), x_blk (i := 1) (by omega), x_blk (i := 2) (by omega), x_st (i := 2) (by omega)]
 rcases hk with hk | hk | hk
 ·rw [stT_10 hk, hk]; rfl
 ·rw [hk]; rfl
 ·rw [hk]; rfl
theorem stT_19 {t : Nd} (h : t.kind = 19) (hl : t.kids.length = 2) (k : Nat) : stT t k = bif decide ((kidAt t 0).kind = 9) then [102, 111, 114, 32] ++ blkT (kidAt t 1) k else (([102, 111, 114, 32] ++ exT (kidAt t 0) k) ++ [32]) ++ blkT (kidAt t 1) k := by
 unfold stT; rw [Wm]; show stX t (fun i => (t.kids.map txT).getD i tx0) (t.kids.map txT) k = _
 unfold stX; rw [h, Qma (i := 0) (by omega), x_blk (i := 1) (by omega)]
 rfl
def pcsX (t : Nd) (k : Nat) : List UInt8 := (bif decide ((kidAt t 0).kind = 9) then [100, 101, 102, 97, 117, 108, 116, 58] else ([99, 97, 115, 101, 32] ++ stT (kidAt t 0) k) ++ [58]) ++ plX (kidAt t 1).kids stT (k + 1)
theorem ls_eq' (t : Nd) (k : Nat) : (txT t).ls k = t.kids.flatMap fun c => (tabsL k ++ stT c k) ++ [10] := Unb t k
theorem pcs_eq {t : Nd} (h : t.kids.length = 2) (k : Nat) : (tabsL k ++ pcsX t k) ++ [10] = (txT t).cs k := by
 rw [Wm]; show _ = csX t (fun i => (t.kids.map txT).getD i tx0) k
 have hr := rot (kidAt t 1).kids stT (k + 1)
 rw [csX, x_st (i := 0) (by omega), x_ls (i := 1) (by omega), ls_eq', pcsX, ← List.append_assoc, List.append_assoc _ (plX _ _ _), hr]
 cases decide ((kidAt t 0).kind = 9) <;> simp [List.append_assoc]
theorem stT_22 {t : Nd} (h : t.kind = 22) (hk : ∀ c ∈ t.kids, c.kids.length = 2) (k : Nat) : stT t k = (([115, 101, 108, 101, 99, 116, 32, 123] ++ plX t.kids pcsX k) ++ ([10] ++ tabsL k)) ++ [125] := by
 have e : stT t k = (([115, 101, 108, 101, 99, 116, 32, 123, 10] ++ t.kids.flatMap fun y => (txT y).cs k) ++ tabsL k) ++ [125] := by
  unfold stT; rw [Wm]; show stX t (fun i => (t.kids.map txT).getD i tx0) (t.kids.map txT) k = _
  unfold stX; rw [h]
  show (([115, 101, 108, 101, 99, 116, 32, 123, 10] ++ (t.kids.map txT).flatMap fun y => y.cs k) ++ tabsL k) ++ [125] = _
  rw [List.flatMap_map]
 have hr := rot t.kids pcsX k
 have hm : (t.kids.flatMap fun c => (tabsL k ++ pcsX c k) ++ [10]) = t.kids.flatMap fun y => (txT y).cs k := by
  rw [List.flatMap_def, List.flatMap_def]; congr 1
  exact List.map_congr_left fun c hc => pcs_eq (hk c hc) k
 rw [hm] at hr
 rw [e, ← List.append_assoc ([115, 101, 108, 101, 99, 116, 32, 123] ++ _), List.append_assoc [115, 101, 108, 101, 99, 116, 32, 123], hr]
 simp [List.append_assoc]
theorem blkT_eq (t : Nd) (k : Nat) : blkT t k = (([123] ++ plX t.kids stT (k + 1)) ++ ([10] ++ tabsL k)) ++ [125] := by
 rw [blkT, blk_eq]; simp only [List.append_assoc]; rfl
def decX (t : Nd) (k : Nat) : List UInt8 :=
 bif decide (t.kind = 2) then ((([116, 121, 112, 101, 32] ++ t.text ++ [32, 115, 116, 114, 117, 99, 116, 32, 123]) ++ plX t.kids (fun c _ => fieldX c) (k + 1)) ++ ([10] ++ tabsL k)) ++ [125]
 else ((((([102, 117, 110, 99, 32] ++ t.text) ++ [40]) ++ joinX ((kidAt t 0).kids.map fieldX)) ++ [41, 32]) ++ (bif decide ((kidAt t 1).kind = 9) then [] else typeX (kidAt t 1) ++ [32])) ++ blkT (kidAt t 2) k
def pst (t : Nd) (k : Nat) : List UInt8 := bif decide (t.kind = 3) then fieldX t else bif decide (t.kind = 23) then pcsX t k else bif decide (t.kind = 2) || decide (t.kind = 4) then decX t k else stT t k
theorem dec_eq {t : Nd} (h : t.kind = 6 ∨ t.kind = 2 ∨ t.kind = 4) : declX t = pst t 0 := by
 rcases h with h | h | h
 ·rw [declX, pst, h]; rfl
 ·rw [declX, pst, h]
  show ((([116, 121, 112, 101, 32] ++ t.text) ++ [32, 115, 116, 114, 117, 99, 116, 32, 123, 10]) ++ t.kids.flatMap fun f => (((([9] ++ f.text) ++ [32]) ++ typeX (kidAt f 0)) ++ [10])) ++ [125] = decX t 0
  have hr := rot t.kids (fun c _ => fieldX c) 1
  rw [decX, h]
  show _ = ((([116, 121, 112, 101, 32] ++ t.text ++ [32, 115, 116, 114, 117, 99, 116, 32, 123]) ++ plX t.kids (fun c _ => fieldX c) 1) ++ ([10] ++ tabsL 0)) ++ [125]
  rw [show tabsL 0 = [] from rfl, List.append_nil, List.append_assoc ([116, 121, 112, 101, 32] ++ t.text ++ [32, 115, 116, 114, 117, 99, 116, 32, 123]), hr]
  have e : (fun c : Nd => (tabsL 1 ++ fieldX c) ++ [10]) = fun f => (((([9] ++ f.text) ++ [32]) ++ typeX (kidAt f 0)) ++ [10]) := by
   funext c; rw [fieldX]; simp [tabsL, List.append_assoc]
  rw [e]; simp [List.append_assoc]
 ·rw [declX, pst, h]; show _ = decX t 0; rw [decX, h]; rfl
theorem Zma {t : Nd} (h : stmtB t = true) : pst t = stT t := by
 funext k
 have hn : ∀ a, stK a = false → t.kind ≠ a := by intro a ha e; unfold stmtB at h; rw [e, ha] at h; cases h
 rw [pst, decide_eq_false (hn 3 (by decide)), decide_eq_false (hn 23 (by decide)), decide_eq_false (hn 2 (by decide)), decide_eq_false (hn 4 (by decide))]; rfl
theorem Vub {t : Nd} (h : t.kind = 3) : pst t = fun _ => fieldX t := by funext k; rw [pst, h]; rfl
theorem pst_case {t : Nd} (h : t.kind = 23) : pst t = pcsX t := by funext k; rw [pst, h]; rfl
def pstB (t : Nd) : Bool := ((stmtB t || fieldB t) || caseB t) || declB t
theorem Zhb {l : List Nd} {f g : Nd → Nat → List UInt8} (h : ∀ c ∈ l, f c = g c) (k : Nat) : plX l f k = plX l g k := by
 rw [plX, plX, List.flatMap_def, List.flatMap_def]; congr 1
 exact List.map_congr_left fun c hc => by rw [h c hc]
theorem dec2 {t : Nd} (h : t.kind = 2) (hx : declB t = true) : t.text ≠ [] ∧ t.kids.all fieldB = true := by
 rw [← Zya, Jo, h] at hx
 have hx : (nameB t.text && t.kids.all fieldB) = true := hx
 simp only [Bool.and_eq_true] at hx
 exact ⟨Xga hx.1, hx.2⟩
theorem dec6 {t : Nd} (h : t.kind = 6) (hx : declB t = true) : varB t = true := by
 rw [← Zya, Jo, h] at hx
 have hx : (varB t && noneB (kidAt t 1)) = true := hx
 exact (Bool.and_eq_true_iff.1 hx).1
theorem dec4 {t : Nd} (h : t.kind = 4) (hx : declB t = true) : t.text ≠ [] ∧ t.kids.length = 3 ∧ (kidAt t 0).kids.all fieldB = true ∧ (noneB (kidAt t 1) = true ∨ isTypeB (kidAt t 1) = true) ∧ blockB (kidAt t 2) = true := by
 rw [← Zya, Jo, h] at hx
 have hx : (bif !nameB t.text || !lenK t 3 then false else (((decide ((kidAt t 0).kind = 5) && plainB (kidAt t 0)) && (kidAt t 0).kids.all fieldB) && (noneB (kidAt t 1) || isTypeB (kidAt t 1))) && blockB (kidAt t 2)) = true := hx
 cases h1 : (!nameB t.text || !lenK t 3)
 ·rw [h1, cond_false] at hx
  simp only [Bool.and_eq_true, Bool.or_eq_true] at hx
  simp only [Bool.or_eq_false_iff, Bool.not_eq_false'] at h1
  exact ⟨Xga h1.1, by (have hz := h1.2; first | (unfold lenK at hz; simp at hz; omega) | (simp at hz; omega)), hx.1.1.2, hx.1.2, hx.2⟩
 ·rw [h1] at hx; cases hx
theorem decl_kind {t : Nd} (hx : declB t = true) : t.kind = 6 ∨ t.kind = 2 ∨ t.kind = 4 := by
 unfold declB memK at hx
 simp only [Bool.and_eq_true, decide_eq_true_eq, List.mem_cons, List.not_mem_nil, or_false] at hx
 rcases hx.1.1 with h | h | h
 ·exact .inr (.inl h)
 ·exact .inl h
 ·exact .inr (.inr h)
theorem pst_cases {t : Nd} (h : pstB t = true) : (t.kind = 2 ∧ declB t = true) ∨ (t.kind = 3 ∧ fieldB t = true) ∨ (t.kind = 4 ∧ declB t = true) ∨ (t.kind = 6 ∧ varB t = true) ∨ (t.kind = 23 ∧ caseB t = true) ∨ stmtB t = true := by
 unfold pstB at h
 simp only [Bool.or_eq_true] at h
 rcases h with ((h | h) | h) | h
 ·exact .inr (.inr (.inr (.inr (.inr h))))
 ·exact .inr (.inl ⟨(sh3 h).1, h⟩)
 ·exact .inr (.inr (.inr (.inr (.inl ⟨(sh23 h).1, h⟩))))
 ·rcases decl_kind h with e | e | e
  ·exact .inr (.inr (.inr (.inl ⟨e, dec6 e h⟩)))
  ·exact .inl ⟨e, h⟩
  ·exact .inr (.inr (.inl ⟨e, h⟩))
end Go.Rk
namespace Go.Rk
open Go Go.RowKit
set_option linter.unusedVariables false
def PrOk (f : Nat) (tx : Nd → Nat → List UInt8) (t : Nd) : Prop := ∀ (p : Option Addr) (c : Nat) (D : Nat → Prop) (n0 b : Nat) (l : List UInt8) (k : Nat) (w : World), Kd w D t.kids (.slice p t.kids.length c) → (∀ x, D x → x < n0) → Prn n0 b l k w →
 l.length + (tx t k).length < 100000000 → k + count t ≤ 1000000 → Ret PP f #[.pointer (some ⟨b, 0, none⟩), ndV t (.slice p t.kids.length c)] w (Wr n0 b l (tx t k) k w)
structure POk (t : Nd) : Prop where
 ex : exprB t = true → okNd t → PrOk Xv exT t
 st : pstB t = true → okNd t → PrOk Xp pst t
theorem Kd.st {n0 : Nat} {w w' : World} {D : Nat → Prop} {ks : List Nd} {v : Value} {j : Nat} (h : Kd w D ks v) (hg : w.grownBy w' (some j)) (hD : ∀ x, D x → x < n0) (hj : n0 ≤ j) : Kd w' D ks v :=
 h.keep hg fun b hb _ e => by injection e with e; have := hD b hb; omega
def PBel (t : Nd) : Prop := ∀ k, count k < count t → POk k
theorem PBel.kid {t : Nd} (ih : PBel t) {i : Nat} (h : i < t.kids.length) : POk (kidAt t i) := ih _ (Xf h)
theorem td_call0 {P : Program} {n : Nat} {σ : List Ent} {fn : Func} {R : Value → World → Prop} {Rp : List PanicEntry → World → Prop} {ds : List Deferred} {w : World} {f : Nat} {args : Array Value} {R' : Value → World → Prop} (hgo : goFn P f = true) (hC : RetB P f args w R') (h : ∀ v w', R' v w' → ∀ a, Kn n σ a → TD P fn R Rp ds a w') : ∀ a, Kn n σ a → TD P fn R Rp (fnD f #[] args :: ds) a w :=
 td_call hgo (by rw [Array.append_empty]; exact hC) h
theorem Jua {t : Nd} (ex : PrOk Xv exT t) (ks : List Int) (b2 c2 : Nat) {p : Option Addr} {c : Nat} {D : Nat → Prop} {n0 b : Nat} {l : List UInt8} {k : Nat} {w : World} (hk0 : Kd w D t.kids (.slice p t.kids.length c)) (hD : ∀ x, D x → x < n0) (hP : Prn n0 b l k w)
  (hR : Blk w b2 ty_int (ks.map (Value.int .i64))) (hks : ks.length ≤ 1000) (hlen : l.length + (parX (memK ks t.kind) (exT t k)).length < 100000000) (hc : k + count t ≤ 1000000) :
  Ret PP Vra #[.pointer (some ⟨b, 0, none⟩), ndV t (.slice p t.kids.length c), .slice (some ⟨b2, 0, none⟩) ks.length c2] w (Wr n0 b l (parX (memK ks t.kind) (exT t k)) k w) := by
 have g := PF.refl n0 b w
 have hbn := hP.ge
 refine Uwa (m := 19) Wja rfl rfl [(0, True, _), (1, True, _), (2, True, _)] (Za rfl (Za rfl (Za rfl (Zd _)))) ?_
 refine Ws fun K1 hK1 => ?_
 refine Wo [1] ?_
 refine Wd rfl (Zb rfl) rfl ?_
 intro b4 w4 N4
 have l4 := newge N4 g.size
 have g := g.trans (PF.of_g (N4.g))
 have hP := hP.grow (N4.g)
 have hk0 := hk0.grow (N4.g)
 try have hR := hR.grow (N4.g)
 have B4 := N4.blk
 refine Zj [(0, _, _), (2, _, _), (4, _, _)] (Za rfl (Za rfl (Za rfl (Zd _)))) ?_
 refine Zh (hK1 _ _ _ ?_)
 refine Ws fun K2 hK2 => ?_
 refine Ws fun K3 hK3 => ?_
 skip
 refine scd_draw [3, 1, 3, 0, 1] [true, true, false, false, true] [0, 1, 0, 4, 15] mix (by kernel_rfl) ?_
 have g := g.trans (PF.of_g (G.drew _))
 replace B4 := B4.grow (G.drew _)
 have hP := hP.grow (G.drew _)
 have hk0 := hk0.grow (G.drew _)
 try have hR := hR.grow (G.drew _)
 have C4 := B4
 refine Zc rfl (fun _ => Zi (Zb rfl)) ?_
 refine Yd rfl (Zu Wj Yl (Zk (Zb rfl) (Zn)) rfl) (Qx ks _ _ _ _ hR.row hks) ?_
 rintro v7 w7 ⟨hA7, k7⟩
 refine ⟨fun _ => k7, ?_⟩
 obtain ⟨f7, fs7, cs7, rfl, hgo7, hf7⟩ := hA7
 have g := g.trans (PF.of_g k7)
 have hP := hP.grow k7
 have hk0 := hk0.grow k7
 replace B4 := B4.grow k7
 have gm7 := G.refl w7
 refine Zc rfl (fun _ => Zm Ys (Zb rfl)) ?_
 refine sr_rd0 rfl (Zt Yy (Zb rfl) (fun _ => C4.at_ rfl)) ?_
 refine Xe rfl (Zu hgo7 (Zb rfl) (Zk (Zb rfl) (Zn)) rfl) (hf7 t.kind _ gm7) (fun w10 g10 => ?_)
 have g := g.trans (PF.of_g (g10))
 replace B4 := B4.grow (g10)
 have hP := hP.grow (g10)
 have hk0 := hk0.grow (g10)
 try have hR := hR.grow (g10)
 refine Zj [(0, _, _), (4, _, _), (10, _, _)] (Za rfl (Za rfl (Za rfl (Zd _)))) ?_
 refine Zh (hK3 _ _ _ ?_)
 refine Uea (Zb rfl) (fun h1 => ?_) (fun h1 => ?_)
 ·have e : parX (memK ks t.kind) (exT t k) = ([40] ++ exT t k) ++ [41] := by rw [h1]; rfl
  rw [e] at hlen
  refine Ws fun K4 hK4 => ?_
  refine Wo [3, 1, 2] ?_
  refine Zc rfl (fun _ => Zi (Zb rfl)) ?_
  refine Zx [_] rfl Yn Xa (Zp Zl (Yc)) rfl rfl ?_
  intro b12 w12 N12
  have x12_4 := N12.ne B4
  have l12 := newge N12 g.size
  have g := g.trans (PF.of_g (N12.g))
  replace B4 := B4.grow (N12.g)
  have hP := hP.grow (N12.g)
  have hk0 := hk0.grow (N12.g)
  try have hR := hR.grow (N12.g)
  have B12 := N12.blk
  refine Yd rfl (Zu Zw Yl (Zk (Zb rfl) (Zk (Zb rfl) (Zn))) rfl) (Xd [[40]] hP B12 (by omega) (by first | omega | (simp only [Xec, Xfc, Xgc, Xhc, Xic, Xjc, tabsL, Xkc]; omega) | (simp at hlen ⊢ <;> omega)) (by first | rfl | (simp [ht]; done) | (simpa using ht)) (Nat.le_of_ble_eq_true rfl)) ?_
  rintro v13 w13 ⟨rfl, hP, g13⟩
  refine ⟨fun h => absurd h (by decide), ?_⟩
  have g := g.trans g13
  replace B4 := B4.pf g13 rfl (by omega)
  replace B12 := B12.pf g13 rfl (by omega)
  have hk0 := hk0.pf g13 hD
  refine Zj [(0, _, _), (4, _, _)] (Za rfl (Za rfl (Zd _))) ?_
  refine Zh (hK4 _ _ _ ?_)
  refine Ykc (k := 2) [3, 1, 2] rfl rfl rfl ?_
  refine Zc rfl (fun _ => Zi (Zb rfl)) ?_
  refine Zx [_] rfl Yn Xa (Zp Zl (Yc)) rfl rfl ?_
  intro b15 w15 N15
  have x15_4 := N15.ne B4
  have x15_12 := N15.ne B12
  have l15 := newge N15 g.size
  have g := g.trans (PF.of_g (N15.g))
  replace B4 := B4.grow (N15.g)
  replace B12 := B12.grow (N15.g)
  have hP := hP.grow (N15.g)
  have hk0 := hk0.grow (N15.g)
  try have hR := hR.grow (N15.g)
  have B15 := N15.blk
  refine Zh (kdef_mk (rdd_call Yl (Zk (Zb rfl) (Zk (Zb rfl) (Zn)))) (hK2 _ _ _ ?_))
  refine Yga [(0, _, _), (4, _, _)] (Za rfl (Za rfl (Zd _))) ?_
  refine Wo [3, 0, 2] ?_
  refine Zc rfl (fun _ => Zi (Zb rfl)) ?_
  refine Ya rfl (Yb Zr (Zb rfl) rfl (fun _ => B4.row)) ?_
  refine Yd rfl (Zu Xh Yl (Zk (Zb rfl) (Zk (Zb rfl) (Zn))) rfl) (ex p c D n0 b _ k _ hk0 hD hP (by first | omega | (simp at hlen ⊢ <;> omega)) hc) ?_
  rintro v18 w18 ⟨rfl, hP, g18⟩
  refine ⟨fun h => absurd h (by decide), ?_⟩
  have g := g.trans g18
  replace B4 := B4.pf g18 rfl (by omega)
  replace B12 := B12.pf g18 rfl (by omega)
  replace B15 := B15.pf g18 rfl (by omega)
  have hk0 := hk0.pf g18 hD
  refine Zj [] (Zd _) ?_
  refine Zh (?_)
  first
   | (refine td_call0 Zw (write_b [[41]] b15 0 _ hP B15.row (by omega) (blk_byr B15 rfl) (by simp at hlen ⊢ <;> omega) (by simp) (Nat.le_of_ble_eq_true rfl)) (fun v w' hv => ?_); obtain ⟨rfl, hP, gd⟩ := hv; have g := g.trans gd; refine Wjb rfl ⟨rfl, ?_, g⟩; rw [e]; simpa using hP)
   | (refine Wjb rfl ⟨rfl, ?_, g⟩; rw [e]; simpa using hP)
 have e : parX (memK ks t.kind) (exT t k) = exT t k := by rw [h1]; rfl
 rw [e] at hlen
 refine Xya (hK2 _ _ _ ?_)
 refine Yga [(0, _, _), (4, _, _)] (Za rfl (Za rfl (Zd _))) ?_
 refine Wo [3, 0, 2] ?_
 refine Zc rfl (fun _ => Zi (Zb rfl)) ?_
 refine Ya rfl (Yb Zr (Zb rfl) rfl (fun _ => B4.row)) ?_
 refine Yd rfl (Zu Xh Yl (Zk (Zb rfl) (Zk (Zb rfl) (Zn))) rfl) (ex p c D n0 b _ k _ hk0 hD hP (by first | omega | (simp at hlen ⊢ <;> omega)) hc) ?_
 rintro v18 w18 ⟨rfl, hP, g18⟩
 refine ⟨fun h => absurd h (by decide), ?_⟩
 have g := g.trans g18
 replace B4 := B4.pf g18 rfl (by omega)
 have hk0 := hk0.pf g18 hD
 refine Zj [] (Zd _) ?_
 refine Zh (?_)
 first
  | (refine td_call0 Zw (write_b [[41]] b15 0 _ hP B15.row (by omega) (blk_byr B15 rfl) (by simp at hlen ⊢ <;> omega) (by simp) (Nat.le_of_ble_eq_true rfl)) (fun v w' hv => ?_); obtain ⟨rfl, hP, gd⟩ := hv; have g := g.trans gd; refine Wjb rfl ⟨rfl, ?_, g⟩; rw [e]; simpa using hP)
  | (refine Wjb rfl ⟨rfl, ?_, g⟩; rw [e]; simpa using hP)
theorem Yoc (f : Nd → List UInt8) (ks : List Nd) (x : Nd) : joinX ((ks ++ [x]).map f) = joinX (ks.map f) ++ (bif decide ((0 : Int) < ks.length) then [44, 32] else []) ++ f x := by
 cases ks with
 | nil => simp [joinX]
 | cons a r =>
  rw [decide_eq_true (by first | (simp; done) | (simp; omega)), cond_true]
  simp [joinX, List.flatMap_append]
theorem joinX_le (f : Nd → List UInt8) (ks : List Nd) (i : Nat) : (joinX ((ks.take i).map f)).length ≤ (joinX (ks.map f)).length := by
 cases ks with
 | nil => simp
 | cons a r =>
  cases i with
  | zero => simp [joinX]
  | succ i =>
   have h : (((r.take i).map f).flatMap fun u => [44, 32] ++ u).length ≤ ((r.map f).flatMap fun u => [44, 32] ++ u).length := by
    conv => rhs; rw [← List.take_append_drop i r, List.map_append, List.flatMap_append, List.length_append]
    omega
   simp only [List.take_succ_cons, List.map_cons, joinX, List.length_append]
   omega
theorem Vvb (ks : List Nd) {i : Nat} (h : i < ks.length) : count ks[i] ≤ (ks.map count).sum := by
 have := Ujb (ks.map count) (i + 1)
 rw [← List.map_take, Vja count ks i h, List.sum_append] at this
 simp at this; omega
theorem Uxa {ks : List Nd} {c : Nat} {p : Option Addr} {D : Nat → Prop} {n0 b : Nat} {l : List UInt8} {k : Nat} {w : World} (hex : ∀ x ∈ ks, PrOk Xv exT x) (hk0 : Kd w D ks (.slice p ks.length c)) (hD : ∀ x, D x → x < n0) (hP : Prn n0 b l k w)
  (hlen : l.length + (joinX (ks.map fun y => exT y k)).length < 100000000) (hc : k + (ks.map count).sum ≤ 1000000) :
  Ret PP Zfa #[.pointer (some ⟨b, 0, none⟩), .slice p ks.length c] w (Wr n0 b l (joinX (ks.map fun y => exT y k)) k w) := by
 have g := PF.refl n0 b w
 have hbn := hP.ge
 have hls := Ui ks
 refine Ym (m := 22) Vfa rfl rfl [(0, True, _), (1, True, _)] (Za rfl (Za rfl (Zd _))) ?_
 refine Zg fun K1 hK1 => ?_
 refine Zf [3, 3, 3] ?_
 refine Zc rfl (fun _ => Zi (Zb rfl)) ?_
 refine Zc rfl (fun _ => Xx Zo (Zb rfl)) ?_
 refine Zc rfl (fun _ => Zi Zl) ?_
 refine Zj [(0, _, _), (6, _, _), (7, _, _), (8, _, _)] (Za rfl (Za rfl (Za rfl (Za rfl (Zd _))))) ?_
 refine Zh (hK1 _ _ ?_)
 refine Yp ?_
 refine Wv (fun (i : Nat) u1 => (i ≤ ks.length ∧ Prn n0 b (l ++ joinX ((ks.take i).map fun y => exT y k)) k u1 ∧ Kd u1 D ks (.slice p ks.length c)) ∧ PF n0 b w u1) [(0, True, _), (6, True, _), (7, True, _)] (fun (i : Nat) => [(8, True, .int .i64 i)]) (fun (i : Nat) => ks.length - i) (0) ⟨⟨Nat.zero_le _, by simpa [joinX] using hP, hk0⟩, PF.refl _ _ _⟩ (Za rfl (Za rfl (Za rfl (Za rfl (Zd _))))) ?_
 rintro i u1 ⟨hI1, gl1⟩
 have g := g.trans gl1
 obtain ⟨hi, hP, hk0⟩ := hI1
 refine Zg fun K2 hK2 => ?_
 refine Zf [3] ?_
 refine Zc rfl (fun _ => Vh (Zb rfl) (Zb rfl)) ?_
 refine Zh (hK2 _ _ ?_)
 refine Yi [(0, _, _), (6, _, _), (7, _, _), (8, _, _), (9, _, _)] (Za rfl (Za rfl (Za rfl (Za rfl (Za rfl (Zd _)))))) ?_
 refine Zg fun K3 hK3 => ?_
 refine Zz (Zb rfl) (fun h1 => ?_) (fun h1 => ?_)
 ·replace h1 : i < ks.length := by simp only [decide_eq_true_eq] at h1; omega
  obtain ⟨_, _, hpe, _, hks⟩ := id hk0
  obtain ⟨b9, o9, rfl, hD9, xs, hR, hX⟩ := hks (by omega)
  injection hpe with hpe _ hce
  subst hpe hce
  obtain ⟨p9, c9, hcell, hkid⟩ := Yna hR hX h1
  have hjs := Yoc (fun y => exT y k) (ks.take i) ks[i]
  rw [← Jv h1, show (ks.take i).length = i by rw [List.length_take]; omega] at hjs
  have hjl := joinX_le (fun y => exT y k) ks (i + 1)
  rw [hjs] at hjl
  have hcs := Vvb ks h1
  refine Yq (hK3 _ _ ?_)
  refine Yi [(0, _, _), (6, _, _), (7, _, _), (8, _, _)] (Za rfl (Za rfl (Za rfl (Za rfl (Zd _))))) ?_
  refine Zg fun K4 hK4 => ?_
  refine Yp ?_
  refine Zg fun K5 hK5 => ?_
  refine Zf [3, 3, 0, 1, 3, 2] ?_
  refine Zc rfl (fun _ => Zi (Zb rfl)) ?_
  refine Zc rfl (fun _ => Uc Zo (Zb rfl) (Zb rfl) (fun _ => by omega)) ?_
  refine Ya rfl (Yb Zr (Zb rfl) rfl (fun _ => hcell)) ?_
  refine Xr rfl Yo rfl ?_
  intro b5 w5 N5
  have l5 := newge N5 g.size
  try have l5_gl1 := newge N5 gl1.size
  have g := g.trans (PF.of_g (N5.g))
  try have gl1 := gl1.trans (PF.of_g (N5.g))
  have hP := hP.grow (N5.g)
  have hk0 := hk0.grow (N5.g)
  try have hkid := hkid.grow (N5.g)
  have B5 := N5.blk
  refine Zc rfl (fun _ => Ze (Zb rfl)) ?_
  refine Yu rfl Xi (Zb rfl) (Zb rfl) rfl rfl B5 rfl rfl ?_
  intro wS1 hgS1 hzS1
  have C5 := B5
  clear B5
  intro B5
  have g := Wta g hgS1 (by omega)
  first | replace gl1 := Wta gl1 hgS1 (by omega) | clear gl1 | skip
  have hP := hP.keep hgS1 C5 rfl (by omega) (by omega)
  have hk0 := hk0.st hgS1 hD (by omega)
  have hkid := hkid.st hgS1 hD (by omega)
  refine Zj [(0, _, _), (4, _, _), (5, _, _), (6, _, _), (7, _, _), (8, _, _)] (Za rfl (Za rfl (Za rfl (Za rfl (Za rfl (Za rfl (Zd _))))))) ?_
  refine Zh (hK5 _ _ ?_)
  refine Zg fun K6 hK6 => ?_
  refine Zg fun K7 hK7 => ?_
  refine Zf [3, 3] ?_
  refine Zc rfl (fun _ => Zi (Zb rfl)) ?_
  refine Zc rfl (fun _ => Js (Zb rfl) Zl) ?_
  refine Zj [(0, _, _), (5, _, _), (6, _, _), (7, _, _), (8, _, _), (14, _, _)] (Za rfl (Za rfl (Za rfl (Za rfl (Za rfl (Za rfl (Zd _))))))) ?_
  refine Zh (hK7 _ _ ?_)
  refine Zz (Zb rfl) (fun h2 => ?_) (fun h2 => ?_)
  ·rw [h2, cond_true] at hjs hjl
   simp only [List.length_append, List.length_cons, List.length_nil] at hjl
   refine Zf [3, 1, 2] ?_
   refine Zc rfl (fun _ => Zi (Zb rfl)) ?_
   refine Zx [_] rfl Yn Xa (Zp Zl (Yc)) rfl rfl ?_
   intro b16 w16 N16
   have x16_5 := N16.ne B5
   have l16 := newge N16 g.size
   try have l16_gl1 := newge N16 gl1.size
   have g := g.trans (PF.of_g (N16.g))
   try have gl1 := gl1.trans (PF.of_g (N16.g))
   replace B5 := B5.grow (N16.g)
   have hP := hP.grow (N16.g)
   have hk0 := hk0.grow (N16.g)
   try have hkid := hkid.grow (N16.g)
   have B16 := N16.blk
   refine Yd rfl (Zu Zw Yl (Zk (Zb rfl) (Zk (Zb rfl) (Zn))) rfl) (Xd [[44, 32]] hP B16 (by omega) (by first | omega | (simp only [Xec, Xfc, Xgc, Xhc, Xic, Xjc, tabsL, Xkc]; omega) | (simp at hlen ⊢ <;> omega)) (by first | rfl | (simp [ht]; done) | (simpa using ht)) (Nat.le_of_ble_eq_true rfl)) ?_
   rintro v17 w17 ⟨rfl, hP, g17⟩
   refine ⟨fun h => absurd h (by decide), ?_⟩
   have g := g.trans g17
   try have gl1 := gl1.trans g17
   replace B5 := B5.pf g17 rfl (by omega)
   replace B16 := B16.pf g17 rfl (by omega)
   have hk0 := hk0.pf g17 hD
   try have hkid := hkid.pf g17 hD
   refine Zj [(0, _, _), (5, _, _), (6, _, _), (7, _, _), (8, _, _)] (Za rfl (Za rfl (Za rfl (Za rfl (Za rfl (Zd _)))))) ?_
   refine Zh (hK6 _ _ ?_)
   refine Zf [3, 0, 2] ?_
   refine Zc rfl (fun _ => Zi (Zb rfl)) ?_
   refine Ya rfl (Yb Zr (Zb rfl) rfl (fun _ => B5.row)) ?_
   refine Yd rfl (Zu Xh Yl (Zk (Zb rfl) (Zk (Zb rfl) (Zn))) rfl) (hex ks[i] (List.getElem_mem h1) _ _ D n0 b _ k _ hkid hD hP (by simp only [List.length_append, List.length_cons, List.length_nil, List.flatten_cons, List.flatten_nil, List.append_nil]; omega) (by omega)) ?_
   rintro v20 w20 ⟨rfl, hP, g20⟩
   refine ⟨fun h => absurd h (by decide), ?_⟩
   have g := g.trans g20
   try have gl1 := gl1.trans g20
   replace B5 := B5.pf g20 rfl (by omega)
   replace B16 := B16.pf g20 rfl (by omega)
   have hk0 := hk0.pf g20 hD
   try have hkid := hkid.pf g20 hD
   refine Zj [(0, _, _), (6, _, _), (7, _, _), (8, _, _)] (Za rfl (Za rfl (Za rfl (Za rfl (Zd _))))) ?_
   refine Zh (hK4 _ _ ?_)
   refine Zf [3, 3] ?_
   refine Zc rfl (fun _ => Xq (Zb rfl) Zl (fun _ => by omega)) ?_
   refine Zc rfl (fun _ => Zi (Zb rfl)) ?_
   refine Zj [(8, _, _), (0, _, _), (6, _, _), (7, _, _)] (Za rfl (Za rfl (Za rfl (Za rfl (Zd _))))) ?_
   refine Zh (fun a ha => ?_)
   refine ⟨i + 1, ha, ⟨⟨h1, ?_, hk0⟩, gl1⟩, by omega⟩
   rw [hjs]; simpa only [List.append_assoc, List.flatten_cons, List.flatten_nil, List.append_nil] using hP
  rw [h2, cond_false, List.append_nil] at hjs hjl
  simp only [List.length_append] at hjl
  refine Yq (hK6 _ _ ?_)
  refine Yi [(0, _, _), (5, _, _), (6, _, _), (7, _, _), (8, _, _)] (Za rfl (Za rfl (Za rfl (Za rfl (Za rfl (Zd _)))))) ?_
  refine Zf [3, 0, 2] ?_
  refine Zc rfl (fun _ => Zi (Zb rfl)) ?_
  refine Ya rfl (Yb Zr (Zb rfl) rfl (fun _ => B5.row)) ?_
  refine Yd rfl (Zu Xh Yl (Zk (Zb rfl) (Zk (Zb rfl) (Zn))) rfl) (hex ks[i] (List.getElem_mem h1) _ _ D n0 b _ k _ hkid hD hP (by simp only [List.length_append, List.length_cons, List.length_nil, List.flatten_cons, List.flatten_nil, List.append_nil]; omega) (by omega)) ?_
  rintro v20 w20 ⟨rfl, hP, g20⟩
  refine ⟨fun h => absurd h (by decide), ?_⟩
  have g := g.trans g20
  try have gl1 := gl1.trans g20
  replace B5 := B5.pf g20 rfl (by omega)
  have hk0 := hk0.pf g20 hD
  try have hkid := hkid.pf g20 hD
  refine Zj [(0, _, _), (6, _, _), (7, _, _), (8, _, _)] (Za rfl (Za rfl (Za rfl (Za rfl (Zd _))))) ?_
  refine Zh (hK4 _ _ ?_)
  refine Zf [3, 3] ?_
  refine Zc rfl (fun _ => Xq (Zb rfl) Zl (fun _ => by omega)) ?_
  refine Zc rfl (fun _ => Zi (Zb rfl)) ?_
  refine Zj [(8, _, _), (0, _, _), (6, _, _), (7, _, _)] (Za rfl (Za rfl (Za rfl (Za rfl (Zd _))))) ?_
  refine Zh (fun a ha => ?_)
  refine ⟨i + 1, ha, ⟨⟨h1, ?_, hk0⟩, gl1⟩, by omega⟩
  rw [hjs]; simpa only [List.append_assoc, List.flatten_cons, List.flatten_nil, List.append_nil] using hP
 replace h1 : i = ks.length := by simp only [decide_eq_false_iff_not] at h1; omega
 refine Wa rfl (Xs rfl ?_)
 refine ⟨rfl, ?_, g⟩
 rw [h1, List.take_length] at hP; exact hP
end Go.Rk
namespace Go.Rk
open Go Go.Shelf Go.RowKit
def laysM171_ren : Go.Shelf.Ren := ⟨fun | 171 => 132 | 243 => 153 | 246 => 162 | 283 => 167 | 284 => 168 | 285 => 169 | 286 => 170 | 129 => 182 | 317 => 181 | 318 => 183 | 319 => 184 | 320 => 185 | 337 => 190 | 338 => 191 | n => n, fun | 3 => 3 | 9 => 9 | 2 => 2 | 4 => 4 | 171 => 145 | 0 => 0 | 53 => 124 | 37 => 57 | 5 => 5 | 173 => 148 | 212 => 157 | 51 => 158 | 20 => 20 | 213 => 159 | 46 => 160 | 232 => 170 | 233 => 171 | n => n, fun | 17 => 1 | 18 => 2 | 19 => 3 | n => n⟩
theorem laysM171 : Go.Proofs.LaysM.n171 PP laysM171_ren := {
 mixed := by kernel_rfl
 f129 := Go.Proofs.Tryz.func182.trans (congrArg some (by kernel_rfl))
 f171 := Go.Proofs.Tryz.func132.trans (congrArg some (by kernel_rfl))
 f243 := Go.Proofs.Tryz.func153.trans (congrArg some (by kernel_rfl))
 f246 := Go.Proofs.Tryz.func162.trans (congrArg some (by kernel_rfl))
 f283 := Go.Proofs.Tryz.func167.trans (congrArg some (by kernel_rfl))
 f284 := Go.Proofs.Tryz.func168.trans (congrArg some (by kernel_rfl))
 f285 := Go.Proofs.Tryz.func169.trans (congrArg some (by kernel_rfl))
 f286 := Go.Proofs.Tryz.func170.trans (congrArg some (by kernel_rfl))
 f317 := Go.Proofs.Tryz.func181.trans (congrArg some (by kernel_rfl))
 f318 := Go.Proofs.Tryz.func183.trans (congrArg some (by kernel_rfl))
 f319 := Go.Proofs.Tryz.func184.trans (congrArg some (by kernel_rfl))
 f320 := Go.Proofs.Tryz.func185.trans (congrArg some (by kernel_rfl))
 f337 := Go.Proofs.Tryz.func190.trans (congrArg some (by kernel_rfl))
 f338 := Go.Proofs.Tryz.func191.trans (congrArg some (by kernel_rfl))
 t0 := Go.Proofs.Tryz.underlying0
 a0 := Go.Proofs.Tryz.isAgg0
 z0 := Go.Proofs.Tryz.sizeOf0
 v0 := Go.Proofs.Tryz.zeroValue0
 t2 := Go.Proofs.Tryz.underlying2
 a2 := Go.Proofs.Tryz.isAgg2
 z2 := Go.Proofs.Tryz.sizeOf2
 v2 := Go.Proofs.Tryz.zeroValue2
 t3 := Go.Proofs.Tryz.underlying3
 a3 := Go.Proofs.Tryz.isAgg3
 z3 := Go.Proofs.Tryz.sizeOf3
 v3 := Go.Proofs.Tryz.zeroValue3
 t4 := Go.Proofs.Tryz.underlying4
 a4 := Go.Proofs.Tryz.isAgg4
 z4 := Go.Proofs.Tryz.sizeOf4
 v4 := Go.Proofs.Tryz.zeroValue4
 t5 := Go.Proofs.Tryz.underlying5
 a5 := Go.Proofs.Tryz.isAgg5
 z5 := Go.Proofs.Tryz.sizeOf5
 v5 := Go.Proofs.Tryz.zeroValue5
 t9 := Go.Proofs.Tryz.underlying9
 a9 := Go.Proofs.Tryz.isAgg9
 z9 := Go.Proofs.Tryz.sizeOf9
 v9 := Go.Proofs.Tryz.zeroValue9
 t20 := Go.Proofs.Tryz.underlying20
 a20 := Go.Proofs.Tryz.isAgg20
 z20 := Go.Proofs.Tryz.sizeOf20
 v20 := Go.Proofs.Tryz.zeroValue20
 t37 := Go.Proofs.Tryz.underlying57
 a37 := Go.Proofs.Tryz.isAgg57
 z37 := Go.Proofs.Tryz.sizeOf57
 v37 := Go.Proofs.Tryz.zeroValue57
 t46 := Go.Proofs.Tryz.underlying160
 a46 := Go.Proofs.Tryz.isAgg160
 z46 := Go.Proofs.Tryz.sizeOf160
 v46 := Go.Proofs.Tryz.zeroValue160
 t51 := Go.Proofs.Tryz.underlying158
 a51 := Go.Proofs.Tryz.isAgg158
 z51 := Go.Proofs.Tryz.sizeOf158
 v51 := Go.Proofs.Tryz.zeroValue158
 t53 := Go.Proofs.Tryz.underlying124
 a53 := Go.Proofs.Tryz.isAgg124
 z53 := Go.Proofs.Tryz.sizeOf124
 v53 := Go.Proofs.Tryz.zeroValue124
 t171 := Go.Proofs.Tryz.underlying145
 a171 := Go.Proofs.Tryz.isAgg145
 z171 := Go.Proofs.Tryz.sizeOf145
 v171 := Go.Proofs.Tryz.zeroValue145
 t173 := Go.Proofs.Tryz.underlying148
 a173 := Go.Proofs.Tryz.isAgg148
 z173 := Go.Proofs.Tryz.sizeOf148
 v173 := Go.Proofs.Tryz.zeroValue148
 t212 := Go.Proofs.Tryz.underlying157
 a212 := Go.Proofs.Tryz.isAgg157
 z212 := Go.Proofs.Tryz.sizeOf157
 v212 := Go.Proofs.Tryz.zeroValue157
 t213 := Go.Proofs.Tryz.underlying159
 a213 := Go.Proofs.Tryz.isAgg159
 z213 := Go.Proofs.Tryz.sizeOf159
 t232 := Go.Proofs.Tryz.underlying170
 a232 := Go.Proofs.Tryz.isAgg170
 z232 := Go.Proofs.Tryz.sizeOf170
 v232 := Go.Proofs.Tryz.zeroValue170
 t233 := Go.Proofs.Tryz.underlying171
 a233 := Go.Proofs.Tryz.isAgg171
 z233 := Go.Proofs.Tryz.sizeOf171
 v233 := Go.Proofs.Tryz.zeroValue171
 g17 := by kernel_rfl
 g18 := by kernel_rfl
 g19 := by kernel_rfl
 i0 := by kernel_rfl
 i2 := by kernel_rfl
 i3 := by kernel_rfl
 i4 := by kernel_rfl
 i5 := by kernel_rfl
 i9 := by kernel_rfl
 i20 := by kernel_rfl
 i37 := by kernel_rfl
 i46 := by kernel_rfl
 i51 := by kernel_rfl
 i53 := by kernel_rfl
 i171 := by kernel_rfl
 i173 := by kernel_rfl
 i212 := by kernel_rfl
 i232 := by kernel_rfl
 i233 := by kernel_rfl
 m17 := by kernel_rfl
 m18 := by kernel_rfl
 m19 := by kernel_rfl }
end Go.Rk
