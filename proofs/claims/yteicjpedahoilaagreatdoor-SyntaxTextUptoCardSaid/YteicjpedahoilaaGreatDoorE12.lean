/- Merged texts of one road: Awk, Awl, Syl, Prr, Prs, Prt, Pru, Prv, Psp, Psd, Pln, Syp, Tpa, Tpb, Tpc. Conditions: each text's own. -/
import Derived.Test.YteicjpedahoilaaGreatDoorE08
import Derived.Test.YteicjpedahoilaaGreatDoorE09
import Derived.Test.YteicjpedahoilaaGreatDoorE11
import Derived.Test.YteicjpedahoilaaGreatDoorE10
import Derived.Test.YteicjpedahoilaaGreatDoorE04
set_option linter.unusedSimpArgs false
set_option linter.unusedVariables false
namespace Go.Rk
open Go Go.RowKit
set_option linter.unusedVariables false
def ndT (k : Int) (s : List UInt8) (ks : List Nd) : Nd := .mk k s 0 0 ks ty0 0 0
def sumN : Nd := ndT 32 [43] [ndT 27 [120] [], .mk 24 [] 1 0 [] ty0 0 0]
def lessN : Nd := ndT 32 [60] [ndT 27 [97] [], sumN]
def Ufa : Nd := ndT 10 [] [ndT 20 [] [lessN]]
def parN : Nd := ndT 5 [] [ndT 3 [97] [ndT 7 [105, 110, 116] []]]
def fncN (b : Nd) : Nd := ndT 4 [102] [parN, ndT 7 [98, 111, 111, 108] [], b]
def varN : Nd := ndT 6 [120] [ndT 7 [105, 110, 116] [], ndT 9 [] []]
def smpB (b : Nd) : Nd := ndT 1 [] [varN, fncN b]
def smpN : Nd := smpB Ufa
theorem Ywb (s : List UInt8) (w : World) : Ret PP fn_l03_name #[Str s] w fun r w' => r = ndV (ndT 27 s []) (.slice none 0 0) ∧ G w w' := by
 have g := G.refl w
 refine Ym (m := 5) func_l03_name rfl rfl [(0, True, _)] (Za rfl (Zd _)) ?_
 refine Zg fun K1 hK1 => ?_
 refine Zf [1] ?_
 refine Xr rfl Yo rfl ?_
 intro b2 w2 N2
 have l2 := N2.ge g
 have g := g.trans (N2.g)
 have B2 := N2.blk
 refine Zh (hK1 _ _ ?_)
 refine Zg fun K2 hK2 => ?_
 refine Zf [3, 3, 2] ?_
 refine Zc rfl (fun _ => Zi (Zb rfl)) ?_
 refine Zc rfl (fun _ => We [_, _, _, _, _, _, _, _, _] Yo rfl Wh (Zp Zl (Zp (Zb rfl) (Yc))) rfl) ?_
 refine Yu rfl Xi (Zb rfl) (Zb rfl) rfl rfl B2 rfl rfl ?_
 intro wS1 hgS1 hzS1
 clear B2
 intro B2
 have g := Xo g hgS1 (by intro k hk; injection hk with hk; omega)
 refine Zj [(2, _, _)] (Za rfl (Zd _)) ?_
 refine Zh (hK2 _ _ ?_)
 refine Yf (Zab rfl (Wma rfl Zr rfl (by first | exact B2.row) (Qk)) ?_)
 exact ⟨rfl, g⟩
theorem Wva (s : List UInt8) (w : World) : Ret PP fn_l03_typed #[Str s] w fun r w' => r = ndV (ndT 7 s []) (.slice none 0 0) ∧ G w w' := by
 have g := G.refl w
 refine Ym (m := 5) Zbc rfl rfl [(0, True, _)] (Za rfl (Zd _)) ?_
 refine Zg fun K1 hK1 => ?_
 refine Zf [1] ?_
 refine Xr rfl Yo rfl ?_
 intro b2 w2 N2
 have l2 := N2.ge g
 have g := g.trans (N2.g)
 have B2 := N2.blk
 refine Zh (hK1 _ _ ?_)
 refine Zg fun K2 hK2 => ?_
 refine Zf [3, 3, 2] ?_
 refine Zc rfl (fun _ => Zi (Zb rfl)) ?_
 refine Zc rfl (fun _ => We [_, _, _, _, _, _, _, _, _] Yo rfl Wh (Zp Zl (Zp (Zb rfl) (Yc))) rfl) ?_
 refine Yu rfl Xi (Zb rfl) (Zb rfl) rfl rfl B2 rfl rfl ?_
 intro wS1 hgS1 hzS1
 clear B2
 intro B2
 have g := Xo g hgS1 (by intro k hk; injection hk with hk; omega)
 refine Zj [(2, _, _)] (Za rfl (Zd _)) ?_
 refine Zh (hK2 _ _ ?_)
 refine Yf (Zab rfl (Wma rfl Zr rfl (by first | exact B2.row) (Qk)) ?_)
 exact ⟨rfl, g⟩
section
variable {P : Program} {n : Nat} {N T : Act → World → Prop} {X : List (Nat × (Act → World → Prop))} {σ : List Ent} {w : World}
theorem sc_mid {x y : Code} {α : Type} (τ : α → List Ent) (R : α → World → Prop) (h1 : SC P n x (fun a w => ∃ z, Kn n (τ z) a ∧ R z w) X T σ w) (h2 : ∀ z u, R z u → SC P n y N X T (τ z) u) : SC P n (.seq x y) N X T σ w :=
 Zg fun K hK a ha => Code.wp_mono (fun e a w q => by
  cases e with
  | normal =>
   obtain ⟨z, h, r⟩ := q
   exact hK _ _ (h2 z w r) a h
  | _ => exact q) (h1 a ha)
end
@[reducible] def GZ (n b : Nat) : Nat → Prop := fun k => n ≤ k ∧ k ≠ b
set_option maxHeartbeats 1000000 in
theorem sample_ok (w : World) : Ret PP fn_l03_sample #[] w fun r w' => RetD (GE w.heap.size) smpN r w' ∧ G w w' := by
 have g := G.refl w
 refine Ym (m := 38) Uub rfl rfl [] (Zd _) ?_
 refine Zg fun K1 hK1 => ?_
 refine Zf [1] ?_
 refine Xr rfl Yo rfl ?_
 intro b0 w0 N0
 have l0 := N0.ge g
 have g := g.trans (N0.g)
 try have k2 := k2.grow (N0.g)
 try have k5 := k5.grow (N0.g)
 have B0 := N0.blk
 refine Zh (hK1 _ _ ?_)
 refine Zg fun K2 hK2 => ?_
 refine Zf [1, 3, 1, 3, 1, 2] ?_
 refine Yd rfl (Zu Qua Yl (Zk Zl (Zn)) rfl) (Ywb _ _) ?_
 rintro v7 w7 ⟨rfl, g7⟩
 refine ⟨fun _ => g7, ?_⟩
 have g := g.trans (g7)
 replace B0 := B0.grow (g7)
 try have k2 := k2.grow (g7)
 try have k5 := k5.grow (g7)
 refine Zc rfl (fun _ => We [_, _, _, _, _, _, _, _, _] Yo rfl Wh (Zp Zl (Zp Zl (Yc))) rfl) ?_
 refine Zx [_, _, _, _, _, _, _, _, _, _, _, _, _, _, _, _, _, _] rfl Zo Yo (Zp (Zb rfl) (Zp (Zb rfl) (Yc))) rfl rfl ?_
 intro b9 w9 N9
 have x9_0 := N9.ne B0
 have l9 := N9.ge g
 have g := g.trans (N9.g)
 replace B0 := B0.grow (N9.g)
 try have k2 := k2.grow (N9.g)
 try have k5 := k5.grow (N9.g)
 have B9 := N9.blk
 refine Zc rfl (fun _ => We [_, _, _, _, _, _, _, _, _] Yo rfl Wh (Zp Zl (Zp Zl (Zp (Zb rfl) (Yc)))) rfl) ?_
 refine Xr rfl Yo rfl ?_
 intro b1 w1 N1
 have x1_0 := N1.ne B0
 have x1_9 := N1.ne B9
 have l1 := N1.ge g
 have g := g.trans (N1.g)
 replace B0 := B0.grow (N1.g)
 replace B9 := B9.grow (N1.g)
 try have k2 := k2.grow (N1.g)
 try have k5 := k5.grow (N1.g)
 have B1 := N1.blk
 refine Yu rfl Xi (Zb rfl) (Zb rfl) rfl rfl B1 rfl rfl ?_
 intro wS1 hgS1 hzS1
 clear B1
 intro B1
 replace B0 := B0.keep hgS1 (by intro h; injection h with h; first | exact x1_0 h.symm | exact x0_1 h | omega)
 replace B9 := B9.keep hgS1 (by intro h; injection h with h; first | exact x1_9 h.symm | exact x9_1 h | omega)
 have g := Xo g hgS1 (by intro k hk; injection hk with hk; omega)
 refine Zj [(0, _, _), (1, _, _)] (Za rfl (Za rfl (Zd _))) ?_
 refine Zh (hK2 _ _ ?_)
 refine sc_mid (fun (b2 : Nat) => [(0, True, .pointer (some ⟨b0, 0, none⟩)), (2, True, .pointer (some ⟨b2, 0, none⟩))]) (fun (b2 : Nat) u => G w u ∧ b2 ≠ b0 ∧ Blk u b0 Vy (ndCells nd0 (.slice none 0 0)) ∧ ∃ p c, Blk u b2 Vy (ndCells lessN (.slice p lessN.kids.length c)) ∧ Kd u (GZ w.heap.size b0) lessN.kids (.slice p lessN.kids.length c)) ?_ ?_
 ·refine Jub none [1, 0, 1, 3, 1, 2] [0, 0, 3, 7, 0, 31] mix (by kernel_rfl) [0, 1, 2, 3, 4, 5] rfl ?_
  have g := g.trans (G.drew _)
  replace B0 := B0.grow (G.drew _)
  replace B9 := B9.grow (G.drew _)
  replace B1 := B1.grow (G.drew _)
  try have k2 := k2.grow (G.drew _)
  try have k5 := k5.grow (G.drew _)
  refine st_rd (L' := [0, 2, 3, 4, 5]) 1 rfl rfl rfl (fun w1 hx => Yb Zr (Zb rfl) rfl (fun _ => (B1.keep hx (by intro h; first | (injection h with h; omega) | cases h)).row)) ?_
  refine Zcb 0 4 rfl rfl ?_ ?_
  ·refine Xt (L' := [2, 3, 4, 5]) [1, 0, 1, 3, 1, 2] rfl rfl rfl ?_
   refine Yd rfl (Zu Qua Yl (Zk Zl (Zn)) rfl) (Ywb _ _) ?_
   rintro v11 w11 ⟨rfl, g11⟩
   refine ⟨fun _ => g11, ?_⟩
   have g := g.trans (g11)
   replace B0 := B0.grow (g11)
   replace B9 := B9.grow (g11)
   replace B1 := B1.grow (g11)
   try have k2 := k2.grow (g11)
   try have k5 := k5.grow (g11)
   refine Wi ((g11).only _) ?_
   refine Zcb 2 4 rfl rfl ?_ ?_
   ·refine Xt (L' := [3, 4, 5]) [1, 0, 1, 3, 1, 2] rfl rfl rfl ?_
    refine Zx [_, _, _, _, _, _, _, _, _, _, _, _, _, _, _, _, _, _] rfl Zo Yo (Zp (Zb rfl) (Zp (Zb rfl) (Yc))) rfl rfl ?_
    intro b13 w13 N13
    have x13_0 := N13.ne B0
    have x13_9 := N13.ne B9
    have x13_1 := N13.ne B1
    have l13 := N13.ge g
    have g := g.trans (N13.g)
    replace B0 := B0.grow (N13.g)
    replace B9 := B9.grow (N13.g)
    replace B1 := B1.grow (N13.g)
    try have k2 := k2.grow (N13.g)
    try have k5 := k5.grow (N13.g)
    have B13 := N13.blk
    refine Wi ((N13.g).only _) ?_
    refine Zzb (L' := [4, 5]) 3 rfl rfl rfl (fun _ => We [_, _, _, _, _, _, _, _, _] Yo rfl Wh (Zp Zl (Zp Zl (Zp (Zb rfl) (Yc)))) rfl) ?_
    refine Va 4 rfl rfl ?_
    refine Xt (L' := [5]) [1, 0, 1, 3, 1, 2] rfl rfl rfl ?_
    refine Xr rfl Yo rfl ?_
    intro b2 w2 N2
    have x2_0 := N2.ne B0
    have x2_9 := N2.ne B9
    have x2_1 := N2.ne B1
    have x2_13 := N2.ne B13
    have l2 := N2.ge g
    have g := g.trans (N2.g)
    replace B0 := B0.grow (N2.g)
    replace B9 := B9.grow (N2.g)
    replace B1 := B1.grow (N2.g)
    replace B13 := B13.grow (N2.g)
    try have k2 := k2.grow (N2.g)
    try have k5 := k5.grow (N2.g)
    have B2 := N2.blk
    refine Wi ((N2.g).only _) ?_
    refine Va 5 rfl rfl ?_
    refine Zta (L' := []) [1, 0, 1, 3, 1, 2] rfl rfl rfl rfl ?_
    refine Yu rfl Xi (Zb rfl) (Zb rfl) rfl rfl B2 rfl rfl ?_
    intro wS2 hgS2 hzS2
    clear B2
    intro B2
    replace B0 := B0.keep hgS2 (by intro h; injection h with h; first | exact x2_0 h.symm | exact x0_2 h | omega)
    replace B9 := B9.keep hgS2 (by intro h; injection h with h; first | exact x2_9 h.symm | exact x9_2 h | omega)
    replace B1 := B1.keep hgS2 (by intro h; injection h with h; first | exact x2_1 h.symm | exact x1_2 h | omega)
    replace B13 := B13.keep hgS2 (by intro h; injection h with h; first | exact x2_13 h.symm | exact x13_2 h | omega)
    have g := Xo g hgS2 (by intro k hk; injection hk with hk; omega)
    refine Vma ?_
    refine Uka [(0, _, _), (2, _, _)] (Za rfl (Za rfl (Zd _))) ?_
    refine Uja (fun a ha => ?_)
    exact ⟨b2, ha, g, x2_0, B0, _, _, B2, Yza (D := GZ w.heap.size b0) (ks := lessN.kids) ⟨l13, x13_0⟩ B13.row (Vs (t := ndT 27 [97] []) (Jb _ _) (Uv (t := sumN) (Yza (D := GZ w.heap.size b0) (ks := sumN.kids) ⟨l9, x9_0⟩ B9.row (Vs (t := ndT 27 [120] []) (Jb _ _) (Uv (t := .mk 24 [] 1 0 [] ty0 0 0) (Jb _ _))) (Nat.le_refl _)))) (Nat.le_refl _)⟩
   ·refine Xt (L' := [2, 3, 5]) [1, 0, 1, 3, 1, 2] rfl rfl rfl ?_
    refine Xr rfl Yo rfl ?_
    intro b2 w2 N2
    have x2_0 := N2.ne B0
    have x2_9 := N2.ne B9
    have x2_1 := N2.ne B1
    have l2 := N2.ge g
    have g := g.trans (N2.g)
    replace B0 := B0.grow (N2.g)
    replace B9 := B9.grow (N2.g)
    replace B1 := B1.grow (N2.g)
    try have k2 := k2.grow (N2.g)
    try have k5 := k5.grow (N2.g)
    have B2 := N2.blk
    refine Wi ((N2.g).only _) ?_
    refine Va 2 rfl rfl ?_
    refine Xt (L' := [3, 5]) [1, 0, 1, 3, 1, 2] rfl rfl rfl ?_
    refine Zx [_, _, _, _, _, _, _, _, _, _, _, _, _, _, _, _, _, _] rfl Zo Yo (Zp (Zb rfl) (Zp (Zb rfl) (Yc))) rfl rfl ?_
    intro b13 w13 N13
    have x13_0 := N13.ne B0
    have x13_9 := N13.ne B9
    have x13_1 := N13.ne B1
    have x13_2 := N13.ne B2
    have l13 := N13.ge g
    have g := g.trans (N13.g)
    replace B0 := B0.grow (N13.g)
    replace B9 := B9.grow (N13.g)
    replace B1 := B1.grow (N13.g)
    replace B2 := B2.grow (N13.g)
    try have k2 := k2.grow (N13.g)
    try have k5 := k5.grow (N13.g)
    have B13 := N13.blk
    refine Wi ((N13.g).only _) ?_
    refine Zzb (L' := [5]) 3 rfl rfl rfl (fun _ => We [_, _, _, _, _, _, _, _, _] Yo rfl Wh (Zp Zl (Zp Zl (Zp (Zb rfl) (Yc)))) rfl) ?_
    refine Va 5 rfl rfl ?_
    refine Zta (L' := []) [1, 0, 1, 3, 1, 2] rfl rfl rfl rfl ?_
    refine Yu rfl Xi (Zb rfl) (Zb rfl) rfl rfl B2 rfl rfl ?_
    intro wS2 hgS2 hzS2
    clear B2
    intro B2
    replace B0 := B0.keep hgS2 (by intro h; injection h with h; first | exact x2_0 h.symm | exact x0_2 h | omega)
    replace B9 := B9.keep hgS2 (by intro h; injection h with h; first | exact x2_9 h.symm | exact x9_2 h | omega)
    replace B1 := B1.keep hgS2 (by intro h; injection h with h; first | exact x2_1 h.symm | exact x1_2 h | omega)
    replace B13 := B13.keep hgS2 (by intro h; injection h with h; first | exact x2_13 h.symm | exact x13_2 h | omega)
    have g := Xo g hgS2 (by intro k hk; injection hk with hk; omega)
    refine Vma ?_
    refine Uka [(0, _, _), (2, _, _)] (Za rfl (Za rfl (Zd _))) ?_
    refine Uja (fun a ha => ?_)
    exact ⟨b2, ha, g, x2_0, B0, _, _, B2, Yza (D := GZ w.heap.size b0) (ks := lessN.kids) ⟨l13, x13_0⟩ B13.row (Vs (t := ndT 27 [97] []) (Jb _ _) (Uv (t := sumN) (Yza (D := GZ w.heap.size b0) (ks := sumN.kids) ⟨l9, x9_0⟩ B9.row (Vs (t := ndT 27 [120] []) (Jb _ _) (Uv (t := .mk 24 [] 1 0 [] ty0 0 0) (Jb _ _))) (Nat.le_refl _)))) (Nat.le_refl _)⟩
  ·refine Xt (L' := [0, 2, 3, 5]) [1, 0, 1, 3, 1, 2] rfl rfl rfl ?_
   refine Xr rfl Yo rfl ?_
   intro b2 w2 N2
   have x2_0 := N2.ne B0
   have x2_9 := N2.ne B9
   have x2_1 := N2.ne B1
   have l2 := N2.ge g
   have g := g.trans (N2.g)
   replace B0 := B0.grow (N2.g)
   replace B9 := B9.grow (N2.g)
   replace B1 := B1.grow (N2.g)
   try have k2 := k2.grow (N2.g)
   try have k5 := k5.grow (N2.g)
   have B2 := N2.blk
   refine Wi ((N2.g).only _) ?_
   refine Va 0 rfl rfl ?_
   refine Xt (L' := [2, 3, 5]) [1, 0, 1, 3, 1, 2] rfl rfl rfl ?_
   refine Yd rfl (Zu Qua Yl (Zk Zl (Zn)) rfl) (Ywb _ _) ?_
   rintro v11 w11 ⟨rfl, g11⟩
   refine ⟨fun _ => g11, ?_⟩
   have g := g.trans (g11)
   replace B0 := B0.grow (g11)
   replace B9 := B9.grow (g11)
   replace B1 := B1.grow (g11)
   replace B2 := B2.grow (g11)
   try have k2 := k2.grow (g11)
   try have k5 := k5.grow (g11)
   refine Wi ((g11).only _) ?_
   refine Va 2 rfl rfl ?_
   refine Xt (L' := [3, 5]) [1, 0, 1, 3, 1, 2] rfl rfl rfl ?_
   refine Zx [_, _, _, _, _, _, _, _, _, _, _, _, _, _, _, _, _, _] rfl Zo Yo (Zp (Zb rfl) (Zp (Zb rfl) (Yc))) rfl rfl ?_
   intro b13 w13 N13
   have x13_0 := N13.ne B0
   have x13_9 := N13.ne B9
   have x13_1 := N13.ne B1
   have x13_2 := N13.ne B2
   have l13 := N13.ge g
   have g := g.trans (N13.g)
   replace B0 := B0.grow (N13.g)
   replace B9 := B9.grow (N13.g)
   replace B1 := B1.grow (N13.g)
   replace B2 := B2.grow (N13.g)
   try have k2 := k2.grow (N13.g)
   try have k5 := k5.grow (N13.g)
   have B13 := N13.blk
   refine Wi ((N13.g).only _) ?_
   refine Zzb (L' := [5]) 3 rfl rfl rfl (fun _ => We [_, _, _, _, _, _, _, _, _] Yo rfl Wh (Zp Zl (Zp Zl (Zp (Zb rfl) (Yc)))) rfl) ?_
   refine Va 5 rfl rfl ?_
   refine Zta (L' := []) [1, 0, 1, 3, 1, 2] rfl rfl rfl rfl ?_
   refine Yu rfl Xi (Zb rfl) (Zb rfl) rfl rfl B2 rfl rfl ?_
   intro wS2 hgS2 hzS2
   clear B2
   intro B2
   replace B0 := B0.keep hgS2 (by intro h; injection h with h; first | exact x2_0 h.symm | exact x0_2 h | omega)
   replace B9 := B9.keep hgS2 (by intro h; injection h with h; first | exact x2_9 h.symm | exact x9_2 h | omega)
   replace B1 := B1.keep hgS2 (by intro h; injection h with h; first | exact x2_1 h.symm | exact x1_2 h | omega)
   replace B13 := B13.keep hgS2 (by intro h; injection h with h; first | exact x2_13 h.symm | exact x13_2 h | omega)
   have g := Xo g hgS2 (by intro k hk; injection hk with hk; omega)
   refine Vma ?_
   refine Uka [(0, _, _), (2, _, _)] (Za rfl (Za rfl (Zd _))) ?_
   refine Uja (fun a ha => ?_)
   exact ⟨b2, ha, g, x2_0, B0, _, _, B2, Yza (D := GZ w.heap.size b0) (ks := lessN.kids) ⟨l13, x13_0⟩ B13.row (Vs (t := ndT 27 [97] []) (Jb _ _) (Uv (t := sumN) (Yza (D := GZ w.heap.size b0) (ks := sumN.kids) ⟨l9, x9_0⟩ B9.row (Vs (t := ndT 27 [120] []) (Jb _ _) (Uv (t := .mk 24 [] 1 0 [] ty0 0 0) (Jb _ _))) (Nat.le_refl _)))) (Nat.le_refl _)⟩
 ·rintro b2 wj2 ⟨g, x2_0, B0, p2, c2, B2, k2⟩
  have gj2 := G.refl wj2
  replace k2 := k2.lt
  refine Zg fun K4 hK4 => ?_
  refine Zf [0, 1, 3, 1, 3, 1, 2] ?_
  refine Ya rfl (Yb Zr (Zb rfl) rfl (fun _ => B2.row)) ?_
  refine Zx [_, _, _, _, _, _, _, _, _] rfl Zo Yo (Zp (Zb rfl) (Yc)) rfl rfl ?_
  intro b16 w16 N16
  have x16_0 := N16.ne B0
  have x16_2 := N16.ne B2
  have l16 := N16.ge g
  try have l16_gj2 := N16.ge gj2
  have g := g.trans (N16.g)
  try have gj2 := gj2.trans (N16.g)
  replace B0 := B0.grow (N16.g)
  replace B2 := B2.grow (N16.g)
  try have k2 := k2.grow (N16.g)
  try have k5 := k5.grow (N16.g)
  have B16 := N16.blk
  refine Zc rfl (fun _ => We [_, _, _, _, _, _, _, _, _] Yo rfl Wh (Zp Zl (Zp (Zb rfl) (Yc))) rfl) ?_
  refine Zx [_, _, _, _, _, _, _, _, _] rfl Zo Yo (Zp (Zb rfl) (Yc)) rfl rfl ?_
  intro b18 w18 N18
  have x18_0 := N18.ne B0
  have x18_2 := N18.ne B2
  have x18_16 := N18.ne B16
  have l18 := N18.ge g
  try have l18_gj2 := N18.ge gj2
  have g := g.trans (N18.g)
  try have gj2 := gj2.trans (N18.g)
  replace B0 := B0.grow (N18.g)
  replace B2 := B2.grow (N18.g)
  replace B16 := B16.grow (N18.g)
  try have k2 := k2.grow (N18.g)
  try have k5 := k5.grow (N18.g)
  have B18 := N18.blk
  refine Zc rfl (fun _ => We [_, _, _, _, _, _, _, _, _] Yo rfl Wh (Zp Zl (Zp (Zb rfl) (Yc))) rfl) ?_
  refine Xr rfl Yo rfl ?_
  intro b3 w3 N3
  have x3_0 := N3.ne B0
  have x3_2 := N3.ne B2
  have x3_16 := N3.ne B16
  have x3_18 := N3.ne B18
  have l3 := N3.ge g
  try have l3_gj2 := N3.ge gj2
  have g := g.trans (N3.g)
  try have gj2 := gj2.trans (N3.g)
  replace B0 := B0.grow (N3.g)
  replace B2 := B2.grow (N3.g)
  replace B16 := B16.grow (N3.g)
  replace B18 := B18.grow (N3.g)
  try have k2 := k2.grow (N3.g)
  try have k5 := k5.grow (N3.g)
  have B3 := N3.blk
  refine Yu rfl Xi (Zb rfl) (Zb rfl) rfl rfl B3 rfl rfl ?_
  intro wS3 hgS3 hzS3
  clear B3
  intro B3
  replace B0 := B0.keep hgS3 (by intro h; injection h with h; first | exact x3_0 h.symm | exact x0_3 h | omega)
  replace B2 := B2.keep hgS3 (by intro h; injection h with h; first | exact x3_2 h.symm | exact x2_3 h | omega)
  replace B16 := B16.keep hgS3 (by intro h; injection h with h; first | exact x3_16 h.symm | exact x16_3 h | omega)
  replace B18 := B18.keep hgS3 (by intro h; injection h with h; first | exact x3_18 h.symm | exact x18_3 h | omega)
  have g := Xo g hgS3 (by intro k hk; injection hk with hk; omega)
  first | replace gj2 := Xo gj2 hgS3 (by intro k hk; injection hk with hk; omega) | clear gj2 | skip
  have k2 := k2.keep hgS3 (fun b hb _ e => by injection e with e; have := l3_gj2; have := hb.2; omega)
  refine Zj [(0, _, _), (3, _, _)] (Za rfl (Za rfl (Zd _))) ?_
  refine Zh (hK4 _ _ ?_)
  refine Zg fun K5 hK5 => ?_
  refine Zf [1, 1, 3, 1, 3, 1, 2] ?_
  refine Yd rfl (Zu Xda Yl (Zk Zl (Zn)) rfl) (Wva _ _) ?_
  rintro v20 w20 ⟨rfl, g20⟩
  refine ⟨fun _ => g20, ?_⟩
  have g := g.trans (g20)
  try have gj2 := gj2.trans (g20)
  replace B0 := B0.grow (g20)
  replace B2 := B2.grow (g20)
  replace B16 := B16.grow (g20)
  replace B18 := B18.grow (g20)
  replace B3 := B3.grow (g20)
  try have k2 := k2.grow (g20)
  try have k5 := k5.grow (g20)
  refine Zx [_, _, _, _, _, _, _, _, _] rfl Zo Yo (Zp (Zb rfl) (Yc)) rfl rfl ?_
  intro b21 w21 N21
  have x21_0 := N21.ne B0
  have x21_2 := N21.ne B2
  have x21_16 := N21.ne B16
  have x21_18 := N21.ne B18
  have x21_3 := N21.ne B3
  have l21 := N21.ge g
  try have l21_gj2 := N21.ge gj2
  have g := g.trans (N21.g)
  try have gj2 := gj2.trans (N21.g)
  replace B0 := B0.grow (N21.g)
  replace B2 := B2.grow (N21.g)
  replace B16 := B16.grow (N21.g)
  replace B18 := B18.grow (N21.g)
  replace B3 := B3.grow (N21.g)
  try have k2 := k2.grow (N21.g)
  try have k5 := k5.grow (N21.g)
  have B21 := N21.blk
  refine Zc rfl (fun _ => We [_, _, _, _, _, _, _, _, _] Yo rfl Wh (Zp Zl (Zp Zl (Zp (Zb rfl) (Yc)))) rfl) ?_
  refine Zx [_, _, _, _, _, _, _, _, _] rfl Zo Yo (Zp (Zb rfl) (Yc)) rfl rfl ?_
  intro b23 w23 N23
  have x23_0 := N23.ne B0
  have x23_2 := N23.ne B2
  have x23_16 := N23.ne B16
  have x23_18 := N23.ne B18
  have x23_3 := N23.ne B3
  have x23_21 := N23.ne B21
  have l23 := N23.ge g
  try have l23_gj2 := N23.ge gj2
  have g := g.trans (N23.g)
  try have gj2 := gj2.trans (N23.g)
  replace B0 := B0.grow (N23.g)
  replace B2 := B2.grow (N23.g)
  replace B16 := B16.grow (N23.g)
  replace B18 := B18.grow (N23.g)
  replace B3 := B3.grow (N23.g)
  replace B21 := B21.grow (N23.g)
  try have k2 := k2.grow (N23.g)
  try have k5 := k5.grow (N23.g)
  have B23 := N23.blk
  refine Zc rfl (fun _ => We [_, _, _, _, _, _, _, _, _] Yo rfl Wh (Zp Zl (Zp (Zb rfl) (Yc))) rfl) ?_
  refine Xr rfl Yo rfl ?_
  intro b4 w4 N4
  have x4_0 := N4.ne B0
  have x4_2 := N4.ne B2
  have x4_16 := N4.ne B16
  have x4_18 := N4.ne B18
  have x4_3 := N4.ne B3
  have x4_21 := N4.ne B21
  have x4_23 := N4.ne B23
  have l4 := N4.ge g
  try have l4_gj2 := N4.ge gj2
  have g := g.trans (N4.g)
  try have gj2 := gj2.trans (N4.g)
  replace B0 := B0.grow (N4.g)
  replace B2 := B2.grow (N4.g)
  replace B16 := B16.grow (N4.g)
  replace B18 := B18.grow (N4.g)
  replace B3 := B3.grow (N4.g)
  replace B21 := B21.grow (N4.g)
  replace B23 := B23.grow (N4.g)
  try have k2 := k2.grow (N4.g)
  try have k5 := k5.grow (N4.g)
  have B4 := N4.blk
  refine Yu rfl Xi (Zb rfl) (Zb rfl) rfl rfl B4 rfl rfl ?_
  intro wS4 hgS4 hzS4
  clear B4
  intro B4
  replace B0 := B0.keep hgS4 (by intro h; injection h with h; first | exact x4_0 h.symm | exact x0_4 h | omega)
  replace B2 := B2.keep hgS4 (by intro h; injection h with h; first | exact x4_2 h.symm | exact x2_4 h | omega)
  replace B16 := B16.keep hgS4 (by intro h; injection h with h; first | exact x4_16 h.symm | exact x16_4 h | omega)
  replace B18 := B18.keep hgS4 (by intro h; injection h with h; first | exact x4_18 h.symm | exact x18_4 h | omega)
  replace B3 := B3.keep hgS4 (by intro h; injection h with h; first | exact x4_3 h.symm | exact x3_4 h | omega)
  replace B21 := B21.keep hgS4 (by intro h; injection h with h; first | exact x4_21 h.symm | exact x21_4 h | omega)
  replace B23 := B23.keep hgS4 (by intro h; injection h with h; first | exact x4_23 h.symm | exact x23_4 h | omega)
  have g := Xo g hgS4 (by intro k hk; injection hk with hk; omega)
  first | replace gj2 := Xo gj2 hgS4 (by intro k hk; injection hk with hk; omega) | clear gj2 | skip
  have k2 := k2.keep hgS4 (fun b hb _ e => by injection e with e; have := l4_gj2; have := hb.2; omega)
  refine Zj [(0, _, _), (3, _, _), (4, _, _)] (Za rfl (Za rfl (Za rfl (Zd _)))) ?_
  refine Zh (hK5 _ _ ?_)
  refine sc_mid (fun (b5 : Nat) => [(0, True, .pointer (some ⟨b0, 0, none⟩)), (5, True, .pointer (some ⟨b5, 0, none⟩))]) (fun (b5 : Nat) u => G w u ∧ b5 ≠ b0 ∧ Blk u b0 Vy (ndCells nd0 (.slice none 0 0)) ∧ ∃ p c, Blk u b5 Vy (ndCells (fncN Ufa) (.slice p (fncN Ufa).kids.length c)) ∧ Kd u (GZ w.heap.size b0) (fncN Ufa).kids (.slice p (fncN Ufa).kids.length c)) ?_ ?_
  ·refine Jub none [0, 1, 0, 1, 3, 1, 2] [0, 0, 0, 7, 15, 0, 63] mix (by kernel_rfl) [0, 1, 2, 3, 4, 5, 6] rfl ?_
   have g := g.trans (G.drew _)
   try have gj2 := gj2.trans (G.drew _)
   replace B0 := B0.grow (G.drew _)
   replace B2 := B2.grow (G.drew _)
   replace B16 := B16.grow (G.drew _)
   replace B18 := B18.grow (G.drew _)
   replace B3 := B3.grow (G.drew _)
   replace B21 := B21.grow (G.drew _)
   replace B23 := B23.grow (G.drew _)
   replace B4 := B4.grow (G.drew _)
   try have k2 := k2.grow (G.drew _)
   try have k5 := k5.grow (G.drew _)
   refine st_rd (L' := [1, 2, 3, 4, 5, 6]) 0 rfl rfl rfl (fun w1 hx => Yb Zr (Zb rfl) rfl (fun _ => (B4.keep hx (by intro h; first | (injection h with h; omega) | cases h)).row)) ?_
   refine st_rd (L' := [1, 3, 4, 5, 6]) 2 rfl rfl rfl (fun w1 hx => Yb Zr (Zb rfl) rfl (fun _ => (B3.keep hx (by intro h; first | (injection h with h; omega) | cases h)).row)) ?_
   refine Zcb 1 5 rfl rfl ?_ ?_
   ·refine Xt (L' := [3, 4, 5, 6]) [0, 1, 0, 1, 3, 1, 2] rfl rfl rfl ?_
    refine Yd rfl (Zu Xda Yl (Zk Zl (Zn)) rfl) (Wva _ _) ?_
    rintro v26 w26 ⟨rfl, g26⟩
    refine ⟨fun _ => g26, ?_⟩
    have g := g.trans (g26)
    try have gj2 := gj2.trans (g26)
    replace B0 := B0.grow (g26)
    replace B2 := B2.grow (g26)
    replace B16 := B16.grow (g26)
    replace B18 := B18.grow (g26)
    replace B3 := B3.grow (g26)
    replace B21 := B21.grow (g26)
    replace B23 := B23.grow (g26)
    replace B4 := B4.grow (g26)
    try have k2 := k2.grow (g26)
    try have k5 := k5.grow (g26)
    refine Wi ((g26).only _) ?_
    refine Zcb 3 5 rfl rfl ?_ ?_
    ·refine Xt (L' := [4, 5, 6]) [0, 1, 0, 1, 3, 1, 2] rfl rfl rfl ?_
     refine Zx [_, _, _, _, _, _, _, _, _, _, _, _, _, _, _, _, _, _, _, _, _, _, _, _, _, _, _] rfl Zo Yo (Zp (Zb rfl) (Zp (Zb rfl) (Zp (Zb rfl) (Yc)))) rfl rfl ?_
     intro b28 w28 N28
     have x28_0 := N28.ne B0
     have x28_2 := N28.ne B2
     have x28_16 := N28.ne B16
     have x28_18 := N28.ne B18
     have x28_3 := N28.ne B3
     have x28_21 := N28.ne B21
     have x28_23 := N28.ne B23
     have x28_4 := N28.ne B4
     have l28 := N28.ge g
     try have l28_gj2 := N28.ge gj2
     have g := g.trans (N28.g)
     try have gj2 := gj2.trans (N28.g)
     replace B0 := B0.grow (N28.g)
     replace B2 := B2.grow (N28.g)
     replace B16 := B16.grow (N28.g)
     replace B18 := B18.grow (N28.g)
     replace B3 := B3.grow (N28.g)
     replace B21 := B21.grow (N28.g)
     replace B23 := B23.grow (N28.g)
     replace B4 := B4.grow (N28.g)
     try have k2 := k2.grow (N28.g)
     try have k5 := k5.grow (N28.g)
     have B28 := N28.blk
     refine Wi ((N28.g).only _) ?_
     refine Zzb (L' := [5, 6]) 4 rfl rfl rfl (fun _ => We [_, _, _, _, _, _, _, _, _] Yo rfl Wh (Zp Zl (Zp Zl (Zp (Zb rfl) (Yc)))) rfl) ?_
     refine Va 5 rfl rfl ?_
     refine Xt (L' := [6]) [0, 1, 0, 1, 3, 1, 2] rfl rfl rfl ?_
     refine Xr rfl Yo rfl ?_
     intro b5 w5 N5
     have x5_0 := N5.ne B0
     have x5_2 := N5.ne B2
     have x5_16 := N5.ne B16
     have x5_18 := N5.ne B18
     have x5_3 := N5.ne B3
     have x5_21 := N5.ne B21
     have x5_23 := N5.ne B23
     have x5_4 := N5.ne B4
     have x5_28 := N5.ne B28
     have l5 := N5.ge g
     try have l5_gj2 := N5.ge gj2
     have g := g.trans (N5.g)
     try have gj2 := gj2.trans (N5.g)
     replace B0 := B0.grow (N5.g)
     replace B2 := B2.grow (N5.g)
     replace B16 := B16.grow (N5.g)
     replace B18 := B18.grow (N5.g)
     replace B3 := B3.grow (N5.g)
     replace B21 := B21.grow (N5.g)
     replace B23 := B23.grow (N5.g)
     replace B4 := B4.grow (N5.g)
     replace B28 := B28.grow (N5.g)
     try have k2 := k2.grow (N5.g)
     try have k5 := k5.grow (N5.g)
     have B5 := N5.blk
     refine Wi ((N5.g).only _) ?_
     refine Va 6 rfl rfl ?_
     refine Zta (L' := []) [0, 1, 0, 1, 3, 1, 2] rfl rfl rfl rfl ?_
     refine Yu rfl Xi (Zb rfl) (Zb rfl) rfl rfl B5 rfl rfl ?_
     intro wS5 hgS5 hzS5
     clear B5
     intro B5
     replace B0 := B0.keep hgS5 (by intro h; injection h with h; first | exact x5_0 h.symm | exact x0_5 h | omega)
     replace B2 := B2.keep hgS5 (by intro h; injection h with h; first | exact x5_2 h.symm | exact x2_5 h | omega)
     replace B16 := B16.keep hgS5 (by intro h; injection h with h; first | exact x5_16 h.symm | exact x16_5 h | omega)
     replace B18 := B18.keep hgS5 (by intro h; injection h with h; first | exact x5_18 h.symm | exact x18_5 h | omega)
     replace B3 := B3.keep hgS5 (by intro h; injection h with h; first | exact x5_3 h.symm | exact x3_5 h | omega)
     replace B21 := B21.keep hgS5 (by intro h; injection h with h; first | exact x5_21 h.symm | exact x21_5 h | omega)
     replace B23 := B23.keep hgS5 (by intro h; injection h with h; first | exact x5_23 h.symm | exact x23_5 h | omega)
     replace B4 := B4.keep hgS5 (by intro h; injection h with h; first | exact x5_4 h.symm | exact x4_5 h | omega)
     replace B28 := B28.keep hgS5 (by intro h; injection h with h; first | exact x5_28 h.symm | exact x28_5 h | omega)
     have g := Xo g hgS5 (by intro k hk; injection hk with hk; omega)
     first | replace gj2 := Xo gj2 hgS5 (by intro k hk; injection hk with hk; omega) | clear gj2 | skip
     have k2 := k2.keep hgS5 (fun b hb _ e => by injection e with e; have := l5_gj2; have := hb.2; omega)
     refine Vma ?_
     refine Uka [(0, _, _), (5, _, _)] (Za rfl (Za rfl (Zd _))) ?_
     refine Uja (fun a ha => ?_)
     exact ⟨b5, ha, g, x5_0, B0, _, _, B5, Yza (D := GZ w.heap.size b0) (ks := (fncN Ufa).kids) ⟨l28, x28_0⟩ B28.row (Vs (t := parN) (Xaa (t := ndT 3 [97] [ndT 7 [105, 110, 116] []]) (D := GZ w.heap.size b0) ⟨l23, x23_0⟩ B23 (Xaa (t := ndT 7 [105, 110, 116] []) (D := GZ w.heap.size b0) ⟨l21, x21_0⟩ B21 (Jb _ _))) (Vs (t := ndT 7 [98, 111, 111, 108] []) (Jb _ _) (Uv (t := Ufa) (Xaa (t := ndT 20 [] [lessN]) (D := GZ w.heap.size b0) ⟨l18, x18_0⟩ B18 (Xaa (t := lessN) (D := GZ w.heap.size b0) ⟨l16, x16_0⟩ B16 (k2.mono fun _ h _ => h.1)))))) (Nat.le_refl _)⟩
    ·refine Xt (L' := [3, 4, 6]) [0, 1, 0, 1, 3, 1, 2] rfl rfl rfl ?_
     refine Xr rfl Yo rfl ?_
     intro b5 w5 N5
     have x5_0 := N5.ne B0
     have x5_2 := N5.ne B2
     have x5_16 := N5.ne B16
     have x5_18 := N5.ne B18
     have x5_3 := N5.ne B3
     have x5_21 := N5.ne B21
     have x5_23 := N5.ne B23
     have x5_4 := N5.ne B4
     have l5 := N5.ge g
     try have l5_gj2 := N5.ge gj2
     have g := g.trans (N5.g)
     try have gj2 := gj2.trans (N5.g)
     replace B0 := B0.grow (N5.g)
     replace B2 := B2.grow (N5.g)
     replace B16 := B16.grow (N5.g)
     replace B18 := B18.grow (N5.g)
     replace B3 := B3.grow (N5.g)
     replace B21 := B21.grow (N5.g)
     replace B23 := B23.grow (N5.g)
     replace B4 := B4.grow (N5.g)
     try have k2 := k2.grow (N5.g)
     try have k5 := k5.grow (N5.g)
     have B5 := N5.blk
     refine Wi ((N5.g).only _) ?_
     refine Va 3 rfl rfl ?_
     refine Xt (L' := [4, 6]) [0, 1, 0, 1, 3, 1, 2] rfl rfl rfl ?_
     refine Zx [_, _, _, _, _, _, _, _, _, _, _, _, _, _, _, _, _, _, _, _, _, _, _, _, _, _, _] rfl Zo Yo (Zp (Zb rfl) (Zp (Zb rfl) (Zp (Zb rfl) (Yc)))) rfl rfl ?_
     intro b28 w28 N28
     have x28_0 := N28.ne B0
     have x28_2 := N28.ne B2
     have x28_16 := N28.ne B16
     have x28_18 := N28.ne B18
     have x28_3 := N28.ne B3
     have x28_21 := N28.ne B21
     have x28_23 := N28.ne B23
     have x28_4 := N28.ne B4
     have x28_5 := N28.ne B5
     have l28 := N28.ge g
     try have l28_gj2 := N28.ge gj2
     have g := g.trans (N28.g)
     try have gj2 := gj2.trans (N28.g)
     replace B0 := B0.grow (N28.g)
     replace B2 := B2.grow (N28.g)
     replace B16 := B16.grow (N28.g)
     replace B18 := B18.grow (N28.g)
     replace B3 := B3.grow (N28.g)
     replace B21 := B21.grow (N28.g)
     replace B23 := B23.grow (N28.g)
     replace B4 := B4.grow (N28.g)
     replace B5 := B5.grow (N28.g)
     try have k2 := k2.grow (N28.g)
     try have k5 := k5.grow (N28.g)
     have B28 := N28.blk
     refine Wi ((N28.g).only _) ?_
     refine Zzb (L' := [6]) 4 rfl rfl rfl (fun _ => We [_, _, _, _, _, _, _, _, _] Yo rfl Wh (Zp Zl (Zp Zl (Zp (Zb rfl) (Yc)))) rfl) ?_
     refine Va 6 rfl rfl ?_
     refine Zta (L' := []) [0, 1, 0, 1, 3, 1, 2] rfl rfl rfl rfl ?_
     refine Yu rfl Xi (Zb rfl) (Zb rfl) rfl rfl B5 rfl rfl ?_
     intro wS5 hgS5 hzS5
     clear B5
     intro B5
     replace B0 := B0.keep hgS5 (by intro h; injection h with h; first | exact x5_0 h.symm | exact x0_5 h | omega)
     replace B2 := B2.keep hgS5 (by intro h; injection h with h; first | exact x5_2 h.symm | exact x2_5 h | omega)
     replace B16 := B16.keep hgS5 (by intro h; injection h with h; first | exact x5_16 h.symm | exact x16_5 h | omega)
     replace B18 := B18.keep hgS5 (by intro h; injection h with h; first | exact x5_18 h.symm | exact x18_5 h | omega)
     replace B3 := B3.keep hgS5 (by intro h; injection h with h; first | exact x5_3 h.symm | exact x3_5 h | omega)
     replace B21 := B21.keep hgS5 (by intro h; injection h with h; first | exact x5_21 h.symm | exact x21_5 h | omega)
     replace B23 := B23.keep hgS5 (by intro h; injection h with h; first | exact x5_23 h.symm | exact x23_5 h | omega)
     replace B4 := B4.keep hgS5 (by intro h; injection h with h; first | exact x5_4 h.symm | exact x4_5 h | omega)
     replace B28 := B28.keep hgS5 (by intro h; injection h with h; first | exact x5_28 h.symm | exact x28_5 h | omega)
     have g := Xo g hgS5 (by intro k hk; injection hk with hk; omega)
     first | replace gj2 := Xo gj2 hgS5 (by intro k hk; injection hk with hk; omega) | clear gj2 | skip
     have k2 := k2.keep hgS5 (fun b hb _ e => by injection e with e; have := l5_gj2; have := hb.2; omega)
     refine Vma ?_
     refine Uka [(0, _, _), (5, _, _)] (Za rfl (Za rfl (Zd _))) ?_
     refine Uja (fun a ha => ?_)
     exact ⟨b5, ha, g, x5_0, B0, _, _, B5, Yza (D := GZ w.heap.size b0) (ks := (fncN Ufa).kids) ⟨l28, x28_0⟩ B28.row (Vs (t := parN) (Xaa (t := ndT 3 [97] [ndT 7 [105, 110, 116] []]) (D := GZ w.heap.size b0) ⟨l23, x23_0⟩ B23 (Xaa (t := ndT 7 [105, 110, 116] []) (D := GZ w.heap.size b0) ⟨l21, x21_0⟩ B21 (Jb _ _))) (Vs (t := ndT 7 [98, 111, 111, 108] []) (Jb _ _) (Uv (t := Ufa) (Xaa (t := ndT 20 [] [lessN]) (D := GZ w.heap.size b0) ⟨l18, x18_0⟩ B18 (Xaa (t := lessN) (D := GZ w.heap.size b0) ⟨l16, x16_0⟩ B16 (k2.mono fun _ h _ => h.1)))))) (Nat.le_refl _)⟩
   ·refine Xt (L' := [1, 3, 4, 6]) [0, 1, 0, 1, 3, 1, 2] rfl rfl rfl ?_
    refine Xr rfl Yo rfl ?_
    intro b5 w5 N5
    have x5_0 := N5.ne B0
    have x5_2 := N5.ne B2
    have x5_16 := N5.ne B16
    have x5_18 := N5.ne B18
    have x5_3 := N5.ne B3
    have x5_21 := N5.ne B21
    have x5_23 := N5.ne B23
    have x5_4 := N5.ne B4
    have l5 := N5.ge g
    try have l5_gj2 := N5.ge gj2
    have g := g.trans (N5.g)
    try have gj2 := gj2.trans (N5.g)
    replace B0 := B0.grow (N5.g)
    replace B2 := B2.grow (N5.g)
    replace B16 := B16.grow (N5.g)
    replace B18 := B18.grow (N5.g)
    replace B3 := B3.grow (N5.g)
    replace B21 := B21.grow (N5.g)
    replace B23 := B23.grow (N5.g)
    replace B4 := B4.grow (N5.g)
    try have k2 := k2.grow (N5.g)
    try have k5 := k5.grow (N5.g)
    have B5 := N5.blk
    refine Wi ((N5.g).only _) ?_
    refine Va 1 rfl rfl ?_
    refine Xt (L' := [3, 4, 6]) [0, 1, 0, 1, 3, 1, 2] rfl rfl rfl ?_
    refine Yd rfl (Zu Xda Yl (Zk Zl (Zn)) rfl) (Wva _ _) ?_
    rintro v26 w26 ⟨rfl, g26⟩
    refine ⟨fun _ => g26, ?_⟩
    have g := g.trans (g26)
    try have gj2 := gj2.trans (g26)
    replace B0 := B0.grow (g26)
    replace B2 := B2.grow (g26)
    replace B16 := B16.grow (g26)
    replace B18 := B18.grow (g26)
    replace B3 := B3.grow (g26)
    replace B21 := B21.grow (g26)
    replace B23 := B23.grow (g26)
    replace B4 := B4.grow (g26)
    replace B5 := B5.grow (g26)
    try have k2 := k2.grow (g26)
    try have k5 := k5.grow (g26)
    refine Wi ((g26).only _) ?_
    refine Va 3 rfl rfl ?_
    refine Xt (L' := [4, 6]) [0, 1, 0, 1, 3, 1, 2] rfl rfl rfl ?_
    refine Zx [_, _, _, _, _, _, _, _, _, _, _, _, _, _, _, _, _, _, _, _, _, _, _, _, _, _, _] rfl Zo Yo (Zp (Zb rfl) (Zp (Zb rfl) (Zp (Zb rfl) (Yc)))) rfl rfl ?_
    intro b28 w28 N28
    have x28_0 := N28.ne B0
    have x28_2 := N28.ne B2
    have x28_16 := N28.ne B16
    have x28_18 := N28.ne B18
    have x28_3 := N28.ne B3
    have x28_21 := N28.ne B21
    have x28_23 := N28.ne B23
    have x28_4 := N28.ne B4
    have x28_5 := N28.ne B5
    have l28 := N28.ge g
    try have l28_gj2 := N28.ge gj2
    have g := g.trans (N28.g)
    try have gj2 := gj2.trans (N28.g)
    replace B0 := B0.grow (N28.g)
    replace B2 := B2.grow (N28.g)
    replace B16 := B16.grow (N28.g)
    replace B18 := B18.grow (N28.g)
    replace B3 := B3.grow (N28.g)
    replace B21 := B21.grow (N28.g)
    replace B23 := B23.grow (N28.g)
    replace B4 := B4.grow (N28.g)
    replace B5 := B5.grow (N28.g)
    try have k2 := k2.grow (N28.g)
    try have k5 := k5.grow (N28.g)
    have B28 := N28.blk
    refine Wi ((N28.g).only _) ?_
    refine Zzb (L' := [6]) 4 rfl rfl rfl (fun _ => We [_, _, _, _, _, _, _, _, _] Yo rfl Wh (Zp Zl (Zp Zl (Zp (Zb rfl) (Yc)))) rfl) ?_
    refine Va 6 rfl rfl ?_
    refine Zta (L' := []) [0, 1, 0, 1, 3, 1, 2] rfl rfl rfl rfl ?_
    refine Yu rfl Xi (Zb rfl) (Zb rfl) rfl rfl B5 rfl rfl ?_
    intro wS5 hgS5 hzS5
    clear B5
    intro B5
    replace B0 := B0.keep hgS5 (by intro h; injection h with h; first | exact x5_0 h.symm | exact x0_5 h | omega)
    replace B2 := B2.keep hgS5 (by intro h; injection h with h; first | exact x5_2 h.symm | exact x2_5 h | omega)
    replace B16 := B16.keep hgS5 (by intro h; injection h with h; first | exact x5_16 h.symm | exact x16_5 h | omega)
    replace B18 := B18.keep hgS5 (by intro h; injection h with h; first | exact x5_18 h.symm | exact x18_5 h | omega)
    replace B3 := B3.keep hgS5 (by intro h; injection h with h; first | exact x5_3 h.symm | exact x3_5 h | omega)
    replace B21 := B21.keep hgS5 (by intro h; injection h with h; first | exact x5_21 h.symm | exact x21_5 h | omega)
    replace B23 := B23.keep hgS5 (by intro h; injection h with h; first | exact x5_23 h.symm | exact x23_5 h | omega)
    replace B4 := B4.keep hgS5 (by intro h; injection h with h; first | exact x5_4 h.symm | exact x4_5 h | omega)
    replace B28 := B28.keep hgS5 (by intro h; injection h with h; first | exact x5_28 h.symm | exact x28_5 h | omega)
    have g := Xo g hgS5 (by intro k hk; injection hk with hk; omega)
    first | replace gj2 := Xo gj2 hgS5 (by intro k hk; injection hk with hk; omega) | clear gj2 | skip
    have k2 := k2.keep hgS5 (fun b hb _ e => by injection e with e; have := l5_gj2; have := hb.2; omega)
    refine Vma ?_
    refine Uka [(0, _, _), (5, _, _)] (Za rfl (Za rfl (Zd _))) ?_
    refine Uja (fun a ha => ?_)
    exact ⟨b5, ha, g, x5_0, B0, _, _, B5, Yza (D := GZ w.heap.size b0) (ks := (fncN Ufa).kids) ⟨l28, x28_0⟩ B28.row (Vs (t := parN) (Xaa (t := ndT 3 [97] [ndT 7 [105, 110, 116] []]) (D := GZ w.heap.size b0) ⟨l23, x23_0⟩ B23 (Xaa (t := ndT 7 [105, 110, 116] []) (D := GZ w.heap.size b0) ⟨l21, x21_0⟩ B21 (Jb _ _))) (Vs (t := ndT 7 [98, 111, 111, 108] []) (Jb _ _) (Uv (t := Ufa) (Xaa (t := ndT 20 [] [lessN]) (D := GZ w.heap.size b0) ⟨l18, x18_0⟩ B18 (Xaa (t := lessN) (D := GZ w.heap.size b0) ⟨l16, x16_0⟩ B16 (k2.mono fun _ h _ => h.1)))))) (Nat.le_refl _)⟩
  ·clear k2
   rintro b5 wj5 ⟨g, x5_0, B0, p5, c5, B5, k5⟩
   have gj5 := G.refl wj5
   replace k5 := k5.lt
   refine Zg fun K7 hK7 => ?_
   refine Zf [1, 3, 1, 3, 1, 2] ?_
   refine Yd rfl (Zu Xda Yl (Zk Zl (Zn)) rfl) (Wva _ _) ?_
   rintro v30 w30 ⟨rfl, g30⟩
   refine ⟨fun _ => g30, ?_⟩
   have g := g.trans (g30)
   try have gj5 := gj5.trans (g30)
   replace B0 := B0.grow (g30)
   replace B5 := B5.grow (g30)
   try have k2 := k2.grow (g30)
   try have k5 := k5.grow (g30)
   refine Zc rfl (fun _ => We [_, _, _, _, _, _, _, _, _] Yo rfl Wh (Zp Zl (Yc)) rfl) ?_
   refine Zx [_, _, _, _, _, _, _, _, _, _, _, _, _, _, _, _, _, _] rfl Zo Yo (Zp (Zb rfl) (Zp (Zb rfl) (Yc))) rfl rfl ?_
   intro b32 w32 N32
   have x32_0 := N32.ne B0
   have x32_5 := N32.ne B5
   have l32 := N32.ge g
   try have l32_gj5 := N32.ge gj5
   have g := g.trans (N32.g)
   try have gj5 := gj5.trans (N32.g)
   replace B0 := B0.grow (N32.g)
   replace B5 := B5.grow (N32.g)
   try have k2 := k2.grow (N32.g)
   try have k5 := k5.grow (N32.g)
   have B32 := N32.blk
   refine Zc rfl (fun _ => We [_, _, _, _, _, _, _, _, _] Yo rfl Wh (Zp Zl (Zp Zl (Zp (Zb rfl) (Yc)))) rfl) ?_
   refine Xr rfl Yo rfl ?_
   intro b6 w6 N6
   have x6_0 := N6.ne B0
   have x6_5 := N6.ne B5
   have x6_32 := N6.ne B32
   have l6 := N6.ge g
   try have l6_gj5 := N6.ge gj5
   have g := g.trans (N6.g)
   try have gj5 := gj5.trans (N6.g)
   replace B0 := B0.grow (N6.g)
   replace B5 := B5.grow (N6.g)
   replace B32 := B32.grow (N6.g)
   try have k2 := k2.grow (N6.g)
   try have k5 := k5.grow (N6.g)
   have B6 := N6.blk
   refine Yu rfl Xi (Zb rfl) (Zb rfl) rfl rfl B6 rfl rfl ?_
   intro wS6 hgS6 hzS6
   clear B6
   intro B6
   replace B0 := B0.keep hgS6 (by intro h; injection h with h; first | exact x6_0 h.symm | exact x0_6 h | omega)
   replace B5 := B5.keep hgS6 (by intro h; injection h with h; first | exact x6_5 h.symm | exact x5_6 h | omega)
   replace B32 := B32.keep hgS6 (by intro h; injection h with h; first | exact x6_32 h.symm | exact x32_6 h | omega)
   have g := Xo g hgS6 (by intro k hk; injection hk with hk; omega)
   first | replace gj5 := Xo gj5 hgS6 (by intro k hk; injection hk with hk; omega) | clear gj5 | skip
   have k5 := k5.keep hgS6 (fun b hb _ e => by injection e with e; have := l6_gj5; have := hb.2; omega)
   refine Zj [(0, _, _), (5, _, _), (6, _, _)] (Za rfl (Za rfl (Za rfl (Zd _)))) ?_
   refine Zh (hK7 _ _ ?_)
   refine Zg fun K8 hK8 => ?_
   refine Zf [0, 0, 1, 3, 2] ?_
   refine Ya rfl (Yb Zr (Zb rfl) rfl (fun _ => B6.row)) ?_
   refine Ya rfl (Yb Zr (Zb rfl) rfl (fun _ => B5.row)) ?_
   refine Zx [_, _, _, _, _, _, _, _, _, _, _, _, _, _, _, _, _, _] rfl Zo Yo (Zp (Zb rfl) (Zp (Zb rfl) (Yc))) rfl rfl ?_
   intro b36 w36 N36
   have x36_0 := N36.ne B0
   have x36_5 := N36.ne B5
   have x36_32 := N36.ne B32
   have x36_6 := N36.ne B6
   have l36 := N36.ge g
   try have l36_gj5 := N36.ge gj5
   have g := g.trans (N36.g)
   try have gj5 := gj5.trans (N36.g)
   replace B0 := B0.grow (N36.g)
   replace B5 := B5.grow (N36.g)
   replace B32 := B32.grow (N36.g)
   replace B6 := B6.grow (N36.g)
   try have k2 := k2.grow (N36.g)
   try have k5 := k5.grow (N36.g)
   have B36 := N36.blk
   refine Zc rfl (fun _ => We [_, _, _, _, _, _, _, _, _] Yo rfl Wh (Zp Zl (Zp (Zb rfl) (Yc))) rfl) ?_
   refine Yu rfl Xi (Zb rfl) (Zb rfl) rfl rfl B0 rfl rfl ?_
   intro wS7 hgS7 hzS7
   clear B0
   intro B0
   replace B5 := B5.keep hgS7 (by intro h; injection h with h; first | exact x0_5 h.symm | exact x5_0 h | omega)
   replace B32 := B32.keep hgS7 (by intro h; injection h with h; first | exact x0_32 h.symm | exact x32_0 h | omega)
   replace B6 := B6.keep hgS7 (by intro h; injection h with h; first | exact x0_6 h.symm | exact x6_0 h | omega)
   replace B36 := B36.keep hgS7 (by intro h; injection h with h; first | exact x0_36 h.symm | exact x36_0 h | omega)
   have g := Xo g hgS7 (by intro k hk; injection hk with hk; omega)
   first | replace gj5 := Xo gj5 hgS7 (by intro k hk; injection hk with hk; omega) | clear gj5 | skip
   have k5 := k5.keep hgS7 (fun b hb _ e => by injection e with e; exact hb.1.2 e)
   refine Zj [(0, _, _)] (Za rfl (Zd _)) ?_
   refine Zh (hK8 _ _ ?_)
   refine Yf (Zab rfl (Wma rfl Zr rfl (by first | exact B0.row | exact B5.row | exact B32.row | exact B6.row | exact B36.row) (Qk)) ?_)
   have k32 : Kd _ (GE w.heap.size) varN.kids (.slice (some ⟨b32, 0, none⟩) 2 2) := Yza l32 B32.row (Vs (t := ndT 7 [105, 110, 116] []) (Jb _ _) (Uv (t := ndT 9 [] []) (Jb _ _))) (Nat.le_refl _)
   have k36 : Kd _ (GE w.heap.size) smpN.kids (.slice (some ⟨b36, 0, none⟩) 2 2) := Yza l36 B36.row (Vs (t := varN) k32 (Uv (t := fncN Ufa) (k5.mono fun _ h _ => h.1.1))) (Nat.le_refl _)
   exact ⟨⟨_, _, rfl, k36⟩, g⟩
theorem Qg : count smpN = 16 := by decide +kernel
theorem Qy {w w' : World} {k : Nat} {o : Obj} (h : w.heap[k]? = some o) (g : G w w') : w'.heap[k]? = some o := (g.block (Array.getElem?_eq_some_iff.1 h).1).trans h
theorem obj_only {w w' : World} {k j : Nat} {o : Obj} (h : w.heap[k]? = some o) (g : w.grownBy w' (some j)) (hj : k ≠ j) : w'.heap[k]? = some o := (g.block k (Array.getElem?_eq_some_iff.1 h).1 (fun e => hj (by injection e))).trans h
theorem underlying_fn {P : Program} {t : TypeId} (h : (match P.underlying t with | some (.func ..) => true | _ => false) = true) : ∃ a b c, P.underlying t = some (.func a b c) := by
 split at h
 ·exact ⟨_, _, _, ‹_›⟩
 ·cases h
theorem eq_fn {P : Program} {t : TypeId} {ps rs : Array TypeId} {v : Bool} (he : P.underlying t = some (.func ps rs v)) (f : Fn) (cs lb : Array Value) (d : Nat) (w : World) : (Op.equalIn (d + 1) t (.func f cs lb) .nilFunc).run P w = .ok false w := by
 simp [Op.equalIn, run_underlying he]
theorem rd_fneq {P : Program} {n : Nat} {σ : List Ent} {c : Prop} {wb : World} {ty t u : TypeId} {x : Operand} {f : Fn} {cs lb : Array Value} (ht : (match P.underlying t with | some (.func ..) => true | _ => false) = true) (h : Ev n σ c x (.func f cs lb)) : Rd P n σ c wb (.binOp .eql t x (.const .nilFunc) u) ty (.bool false) := fun d pos after gd a ha hc w1 _ => by
 obtain ⟨p, q, v, he⟩ := underlying_fn ht
 simp [execOp, h a ha hc, Zra, eqGuard_at_func, binOp, Op.equal, Op.maxDepth, eq_fn he f cs lb 9999 w1]
end Go.Rk
namespace Go.Rk
open Go Go.RowKit
set_option linter.unusedVariables false
theorem smp_valid : validB smpN = true := by decide +kernel
theorem smp_eq : eqB smpN (stripT smpN) = true := by decide +kernel
theorem smp_text : printX smpN = [118, 97, 114, 32, 120, 32, 105, 110, 116, 10, 102, 117, 110, 99, 32, 102, 40, 97, 32, 105, 110, 116, 41, 32, 98, 111, 111, 108, 32, 123, 10, 9, 114, 101, 116, 117, 114, 110, 32, 97, 32, 60, 32, 40, 120, 32, 43, 32, 49, 41, 10, 125, 10] := by decide +kernel
theorem smp_ok : okNd smpN := by
 simp only [smpN, smpB, varN, fncN, parN, Ufa, lessN, sumN, ndT, Zdb, Nd.kids, Nd.kind, Nd.num, Nd.pos, Nd.ty, Nd.ref, Nd.up, ty0, rng, List.map_cons, List.map_nil, List.mem_cons, List.not_mem_nil]
 simp
theorem awake03_ok (w : World) (hL : Laid w) (hb3 : 6 ≤ w.heap.size) (hT : TabP w) : Ret PP fn_l03_awake #[] w fun r w' => r = .bool true ∧ G w w' := by
 have g := G.refl w
 refine Uwa (m := 42) Jwb rfl rfl [] (Zd _) ?_
 refine Ws fun K1 hK1 => ?_
 refine Wo [1] ?_
 refine Xr rfl ze_bool rfl ?_
 intro b0 w0 N0
 have l0 := N0.ge g
 have g := g.trans (N0.g)
 try have hk4 := hk4.grow (N0.g)
 try have hdb1 := Qy hdb1 (N0.g)
 have B0 := N0.blk
 refine Zh (hK1 _ _ _ ?_)
 refine Ws fun K2 hK2 => ?_
 refine Wo [1, 1, 2] ?_
 refine Yd rfl (Zu go_l03_sample Yl (Zn) rfl) (sample_ok _) ?_
 rintro v4 w4 ⟨⟨p4, c4, rfl, hk4⟩, g4⟩
 refine ⟨fun _ => g4, ?_⟩
 have g := g.trans g4
 replace hk4 := hk4.lt
 replace B0 := B0.grow (g4)
 try have hk4 := hk4.grow (g4)
 try have hdb1 := Qy hdb1 (g4)
 refine Xr rfl Yo rfl ?_
 intro b1 w1 N1
 have x1_0 := N1.ne B0
 have l1 := N1.ge g
 have g := g.trans (N1.g)
 replace B0 := B0.grow (N1.g)
 try have hk4 := hk4.grow (N1.g)
 try have hdb1 := Qy hdb1 (N1.g)
 have B1 := N1.blk
 refine Yu rfl Xi (Zb rfl) (Zb rfl) rfl rfl B1 rfl rfl ?_
 intro wS1 hgS1 hzS1
 clear B1
 intro B1
 replace B0 := B0.keep hgS1 (by intro h; injection h with h; first | exact x1_0 h.symm | exact x0_1 h | omega)
 have g := Xo g hgS1 (by intro k hk; injection hk with hk; omega)
 have hk4 := hk4.keep hgS1 (fun b hb _ e => by injection e with e; have := hb.2; have := N1.at_; omega)
 have hsz4 : w4.heap.size ≤ wS1.heap.size := by have := N1.g.size; have := hgS1.size; omega
 refine Zj [(0, _, _), (1, _, _)] (Za rfl (Za rfl (Zd _))) ?_
 refine Zh (hK2 _ _ _ ?_)
 refine Ws fun K3 hK3 => ?_
 refine Wo [0, 1, 3] ?_
 generalize hD4 : (fun b => GE _ b ∧ b < w4.heap.size) = D4 at hk4
 have hD : ∀ k, D4 k → k < w4.heap.size := fun k h => by rw [← hD4] at h; exact h.2
 refine Ya rfl (Yb Zr (Zb rfl) rfl (fun _ => B1.row)) ?_
 refine Yd rfl (Zu Jzb Yl (Zk (Zb rfl) (Zn)) rfl) (swalk_ok smpN _ D4 _ hk4 (fun k h => by have := hD k h; omega) (by rw [Qg]; decide)) ?_
 rintro v6 w6 ⟨g6, bw, hbw, hbw2, rfl, hit⟩
 refine ⟨fun _ => g6, ?_⟩
 have g := g.trans g6
 have hk4 := hk4.grow g6
 have hsz6 := g6.size
 replace B0 := B0.grow (g6)
 replace B1 := B1.grow (g6)
 try have hk4 := hk4.grow (g6)
 try have hdb1 := Qy hdb1 (g6)
 have gW := G.refl w6
 refine Zc rfl (fun _ => Ze (Zb rfl)) ?_
 refine Zj [(0, _, _), (1, _, _), (2, _, _)] (Za rfl (Za rfl (Za rfl (Zd _)))) ?_
 refine Zh (hK3 _ _ _ ?_)
 refine Ws fun K4 hK4 => ?_
 refine Ws fun K5 hK5 => ?_
 refine Wo [3, 3, 3, 0, 1, 3, 3] ?_
 refine Zc rfl (fun _ => Zi (Zb rfl)) ?_
 refine Zc rfl (fun _ => rd_fneq (by kernel_rfl) (Zb rfl)) ?_
 refine Zc rfl (fun _ => Zi (Zb rfl)) ?_
 refine Yr rfl rfl rfl (Yb Zr (Zb rfl) rfl (fun _ => B1.row)) ?_
 refine Xb rfl rfl rfl (fun _ => (Zu Yta Yl (Zk (Zy rfl id) (Zn)) rfl)) (fun hc => scount_ok smpN _ D4 _ hk4 (by rw [Qg]; decide)) (fun w11 g11 => ?_)
 have g := g.trans (g11)
 try have gW := gW.trans (g11)
 replace B0 := B0.grow (g11)
 replace B1 := B1.grow (g11)
 try have hk4 := hk4.grow (g11)
 try have hdb1 := Qy hdb1 (g11)
 refine Zs rfl rfl rfl (fun _ => Qi (Zy rfl id) Zl) ?_
 refine Zc rfl (fun _ => Yz (Zb rfl) (Zy rfl id)) ?_
 refine Zj [(0, _, _), (1, _, _), (2, _, _), (13, _, _)] (Za rfl (Za rfl (Za rfl (Za rfl (Zd _))))) ?_
 refine Zh (hK5 _ _ _ ?_)
 refine Uea (Zb rfl) (fun h1 => ?_) (fun h1 => ?_)
 ·exfalso; rw [Qg] at h1; revert h1; decide
  done
 (try simp only [bsimp] at h1)
 refine Xya (hK4 _ _ _ ?_)
 refine Yga [(0, _, _), (1, _, _), (2, _, _)] (Za rfl (Za rfl (Za rfl (Zd _)))) ?_
 refine Ws fun K6 hK6 => ?_
 refine Wo [1, 2] ?_
 refine Xr rfl Qc rfl ?_
 intro b3 w3 N3
 have x3_0 := N3.ne B0
 have x3_1 := N3.ne B1
 have l3 := N3.ge g
 try have l3_gW := N3.ge gW
 have g := g.trans (N3.g)
 try have gW := gW.trans (N3.g)
 replace B0 := B0.grow (N3.g)
 replace B1 := B1.grow (N3.g)
 try have hk4 := hk4.grow (N3.g)
 try have hdb1 := Qy hdb1 (N3.g)
 have B3 := N3.blk
 refine Yu rfl Yxa (Zb rfl) Zl rfl rfl B3 rfl rfl ?_
 intro wS2 hgS2 hzS2
 clear B3
 intro B3
 replace B0 := B0.keep hgS2 (by intro h; injection h with h; first | exact x3_0 h.symm | exact x0_3 h | omega)
 replace B1 := B1.keep hgS2 (by intro h; injection h with h; first | exact x3_1 h.symm | exact x1_3 h | omega)
 have g := Xo g hgS2 (by intro k hk; injection hk with hk; omega)
 first | replace gW := Xo gW hgS2 (by intro k hk; injection hk with hk; omega) | clear gW | skip
 try have hk4 := hk4.keep hgS2 (fun b hb _ e => by injection e with e; have := hD b hb; omega)
 refine Zh (hK6 _ _ _ ?_)
 refine Ws fun K7 hK7 => ?_
 refine Ws fun K8 hK8 => ?_
 refine Wo [3] ?_
 refine Zc rfl (fun _ => Zi (Zb rfl)) ?_
 refine Zj [(0, _, _), (1, _, _), (3, _, _), (14, _, _)] (Za rfl (Za rfl (Za rfl (Za rfl (Zd _))))) ?_
 refine Zh (hK8 _ _ _ ?_)
 refine Zgb ?_
 refine' scd_range (fs := #[]) (Nb := fun k => D4 k ∨ k = bw) (Bx := fun k => k = b3) (L := listN smpN) (En := EnN D4) (Zb rfl) (Wub) (hit _ gW) (fun k hk => by rcases hk with hk | hk; (have := hD k hk; have := gW.size; omega); (have := gW.size; omega)) (fun k hk => ⟨by have := B3.lt; omega, fun h => by rcases h with h | h; (have := hD k h; omega); omega⟩) (fun pre A => Blk A b3 ty_int [.int .i64 (pre.length : Nat)]) (fun _ _ _ => False) [] rfl ?hI1 ?hX1 ?hE1 ?hG1 ?h01 ?body1 ?done1 ?stop1
 case hI1 =>
  exact fun pre A C h g => h.gi g
 case hX1 =>
  exact fun _ _ _ _ h _ => h.elim
 case hE1 =>
  exact fun x A args h => enN_one h
 case hG1 =>
  exact fun x A C args h g => enN_gi h g
 case h01 =>
  exact B3
 case body1 =>
  intro lk pre x v A hI1 hpre hx hsz KK hKK
  have g := G.refl A
  refine Yga [(0, _, _), (3, _, _)] (Za rfl (Za rfl (Zd _))) ?_
  refine Xya (hKK _ _ g ?_)
  intro C hgC hI1 hx
  have g := GB.refl (fun k => k = b3) C
  have B3 := hI1
  have hle : pre.length + 1 ≤ 16 := by have := hpre.length_le; rw [Web, Qg] at this; simpa using this
  refine Zgb ?_
  refine Ws fun K9 hK9 => ?_
  refine Wo [0, 3, 2] ?_
  refine Ya rfl (Zt Yy (Zb rfl) (fun _ => B3.at_ rfl)) ?_
  refine Zc rfl (fun _ => Xq (Zb rfl) Zl (fun _ => by omega)) ?_
  refine Yu rfl Yxa (Zb rfl) (Zb rfl) rfl rfl B3 rfl rfl ?_
  intro wS3 hgS3 hzS3
  clear B3
  intro B3
  have g := gb_only g hgS3 (by first | exact .inl (by simp) | exact .inr (by omega))
  try have hk4 := hk4.keep hgS3 (fun b hb _ e => by injection e with e; have := hD b hb; omega)
  refine Zj [(0, _, _), (3, _, _)] (Za rfl (Za rfl (Zd _))) ?_
  refine Zh (hK9 _ _ _ ?_)
  refine Ws fun K10 hK10 => ?_
  refine Wo [0, 3] ?_
  refine Ya rfl (Zt Yy (Zb rfl) (fun _ => B3.at_ rfl)) ?_
  refine Zc rfl (fun _ => Js (Zb rfl) Zl) ?_
  refine Zj [(0, _, _), (19, _, _)] (Za rfl (Za rfl (Zd _))) ?_
  refine Zh (hK10 _ _ _ ?_)
  refine Uea (Zb rfl) (fun h2 => ?_) (fun h2 => ?_)
  ·exfalso; simp at h2; omega
   done
  (try simp only [bsimp] at h2)
  refine Xya (fun a ha => ⟨rfl, ?_⟩)
  exact ⟨g, by simpa using B3⟩
 case done1 =>
  intro db1 W1 hI1 hge1 hdb1 hgb1
  have hwd := Nat.le_trans g.size hge1
  have hb0l := B0.lt
  have hb3l := B3.lt
  replace B0 := B0.gb hgb1 (fun h => x3_0 h.symm)
  replace B1 := B1.gb hgb1 (fun h => x3_1 h.symm)
  have hk4 := hk4.gb hgb1 (fun b hb h => by have := hD b hb; omega)
  have B3 := hI1
  have g := g_gb g hgb1 (fun k hk => by subst hk; omega)
  rw [Web, Qg] at B3
  refine id (hK7 _ _ _ ?_)
  refine Yga [(0, _, _), (1, _, _), (3, _, _)] (Za rfl (Za rfl (Za rfl (Zd _)))) ?_
  refine Ws fun K11 hK11 => ?_
  refine scd_draw [0, 3, 3, 0, 1, 3, 3, 0, 1, 3, 3, 3, 0, 0, 1, 1, 3, 3, 0, 1, 3, 3, 2] [true, true, true, true, true, true, true, true, true, true, true, true, true, true, true, true, true, true, true, true, true, true, true] [0, 1, 3, 7, 15, 31, 63, 127, 255, 511, 1023, 2047, 4095, 4095, 12287, 32767, 65535, 131071, 262143, 524287, 1048575, 2097151, 4194303] mix (by kernel_rfl) ?_
  have g := g.trans (G.drew _)
  replace B0 := B0.grow (G.drew _)
  replace B1 := B1.grow (G.drew _)
  replace B3 := B3.grow (G.drew _)
  try have hk4 := hk4.grow (G.drew _)
  try have hdb1 := Qy hdb1 (G.drew _)
  refine Ya rfl (Zt Yy (Zb rfl) (fun _ => B3.at_ rfl)) ?_
  refine Zc rfl (fun _ => Yg (Zb rfl) Zl) ?_
  refine Zc rfl (fun _ => Zi (Zb rfl)) ?_
  refine Yr rfl rfl rfl (Yb Zr (Zb rfl) rfl (fun _ => B1.row)) ?_
  refine Xb rfl rfl rfl (fun _ => (Zu Uza Yl (Zk (Zy rfl id) (Zn)) rfl)) (fun hc => svalid_ok smpN _ D4 _ (hL.grow g) (by have := g.size; omega) hk4 (by rw [Qg]; decide)) (fun w24 g24 => ?_)
  have g := g.trans (g24)
  replace B0 := B0.grow (g24)
  replace B1 := B1.grow (g24)
  replace B3 := B3.grow (g24)
  try have hk4 := hk4.grow (g24)
  try have hdb1 := Qy hdb1 (g24)
  refine Zc rfl (fun _ => Ye (Zb rfl) (Zy rfl id)) ?_
  refine Zc rfl (fun _ => Zi (Zb rfl)) ?_
  refine Yr rfl rfl rfl (Yb Zr (Zb rfl) rfl (fun _ => B1.row)) ?_
  refine Xb rfl rfl rfl (fun _ => (Zu Yta Yl (Zk (Zy rfl id) (Zn)) rfl)) (fun hc => scount_ok smpN _ D4 _ hk4 (by rw [Qg]; decide)) (fun w28 g28 => ?_)
  have g := g.trans (g28)
  replace B0 := B0.grow (g28)
  replace B1 := B1.grow (g28)
  replace B3 := B3.grow (g28)
  try have hk4 := hk4.grow (g28)
  try have hdb1 := Qy hdb1 (g28)
  refine Zs rfl rfl rfl (fun _ => Yg (Zy rfl id) Zl) ?_
  refine Zc rfl (fun _ => Ye (Zb rfl) (Zy rfl id)) ?_
  refine Zc rfl (fun _ => Zi (Zb rfl)) ?_
  refine Yr rfl rfl rfl (Yb Zr (Zb rfl) rfl (fun _ => B1.row)) ?_
  refine Yr rfl rfl rfl (Yb Zr (Zb rfl) rfl (fun _ => B1.row)) ?_
  refine sr_callq rfl rfl rfl (fun _ => Zu Yua Yl (Zk (Zy rfl id) (Zn)) rfl) (fun hc => sstrip_ok smpN _ D4 _ hk4 (by decide) (by rw [Qg]; decide)) ?_
  intro v34 w34 hv34 g34
  have g := g.trans (g34)
  replace B0 := B0.grow (g34)
  replace B1 := B1.grow (g34)
  replace B3 := B3.grow (g34)
  try have hk4 := hk4.grow (g34)
  try have hdb1 := Qy hdb1 (g34)
  refine Xb rfl rfl rfl (fun _ => (Zu Ysa Yl (Zk (Zy rfl id) (Zk (Zy rfl id) (Zn))) rfl)) (fun hc => (by obtain ⟨p5, c5, e5, k5⟩ := hv34 hc; rw [e5]; exact sequal_ok smpN _ D4 (stripT smpN) _ _ _ hk4 k5 (by rw [Qg]; decide))) (fun w35 g35 => ?_)
  have g := g.trans (g35)
  replace B0 := B0.grow (g35)
  replace B1 := B1.grow (g35)
  replace B3 := B3.grow (g35)
  try have hk4 := hk4.grow (g35)
  try have hdb1 := Qy hdb1 (g35)
  refine Zc rfl (fun _ => Ye (Zb rfl) (Zy rfl id)) ?_
  refine Zc rfl (fun _ => Zi (Zb rfl)) ?_
  refine Yr rfl rfl rfl (Yb Zr (Zb rfl) rfl (fun _ => B1.row)) ?_
  refine Xb rfl rfl rfl (fun _ => (Zu Yra Yl (Zk (Zy rfl id) (Zn)) rfl)) (fun hc => Yqc smpN _ D4 _ (hL.grow g) (by have := g.size; omega) (hT.grow g) hk4 (by rw [Qg]; decide) smp_ok (by rw [smp_text]; decide)) (fun w39 g39 => ?_)
  have g := g.trans (g39)
  replace B0 := B0.grow (g39)
  replace B1 := B1.grow (g39)
  replace B3 := B3.grow (g39)
  try have hk4 := hk4.grow (g39)
  try have hdb1 := Qy hdb1 (g39)
  refine Zs rfl rfl rfl (fun _ => Yh (Zy rfl id) Zl) ?_
  refine Zc rfl (fun _ => Ye (Zb rfl) (Zy rfl id)) ?_
  refine Yu rfl sz_bool (Zb rfl) (Zb rfl) rfl rfl B0 rfl rfl ?_
  intro wS4 hgS4 hzS4
  clear B0
  intro B0
  replace B1 := B1.keep hgS4 (by intro h; injection h with h; first | exact x0_1 h.symm | exact x1_0 h | omega)
  replace B3 := B3.keep hgS4 (by intro h; injection h with h; first | exact x0_3 h.symm | exact x3_0 h | omega)
  have g := Xo g hgS4 (by intro k hk; injection hk with hk; omega)
  try have hdb1 := obj_only hdb1 hgS4 (by omega)
  refine Zh (hK11 _ _ _ ?_)
  refine Jgb (?_)
  refine td_mark hdb1 ?_
  have hgi := Yba (.deferred none) hdb1 rfl hwd
  replace B0 := B0.gi hgi
  have g := g_gi g hgi (Nat.le_refl _)
  refine td_ret (Zab rfl (evr_c1 rfl one_bool (by first | exact B0.at_ rfl | exact B1.at_ rfl | exact B3.at_ rfl) (Qk)) ?_)
  refine ⟨congrArg Value.bool ?_, g⟩
  rw [smp_valid, Qg, smp_eq, smp_text]; rfl
 case stop1 =>
  intro db1 c1 pre x W1 hI1 hpre hge1 hdb1 hgb1
  exact hI1.elim
end Go.Rk
namespace Go.Rk
open Go Go.RowKit
set_option linter.unusedVariables false
theorem eqB_iff : ∀ a b, eqB a b = true ↔ stripT a = stripT b := by
 refine Nd.ind fun a ih b => ⟨fun h => ?_, fun h => ?_⟩
 ·rw [eqB_eq, Bool.and_eq_true, List.all_eq_true] at h
  have hl := eqLoc_len h.1
  have h1 := h.1
  unfold Qca at h1
  simp only [Bool.and_eq_true, decide_eq_true_eq] at h1
  have hk : a.kids.map stripT = b.kids.map stripT := by
   refine List.ext_getElem (by simp [hl]) fun i h2 h3 => ?_
   have h2' : i < a.kids.length := by simpa using h2
   have h3' : i < b.kids.length := by simpa using h3
   have := h.2 i (List.mem_range.2 h2')
   rw [Xu h2', Xu h3'] at this
   simpa using (ih _ (List.getElem_mem h2') _).1 this
  have hc : Vj b = Vj a := by rw [Vj, Vj, h1.1.1.1]
  have hn : numS a = numS b := by
   rw [numS, numS, hc]
   cases hq : Vj a
   ·rfl
   ·have := h1.2; rw [hq] at this; simpa using this
  rw [Um a, Um b, hk, hn, h1.1.1.1, h1.1.1.2]
 ·rw [Um a, Um b] at h
  injection h with hk ht hn _ hks
  have hl : a.kids.length = b.kids.length := by simpa using congrArg List.length hks
  rw [eqB_eq, Bool.and_eq_true, List.all_eq_true]
  refine ⟨?_, fun i hi => ?_⟩
  ·have hc : Vj b = Vj a := by rw [Vj, Vj, hk]
   unfold Qca
   simp only [Bool.and_eq_true, decide_eq_true_eq]
   refine ⟨⟨⟨hk, ht⟩, lenQ_iff.2 hl⟩, ?_⟩
   rw [numS, numS, hc] at hn
   cases hq : Vj a
   ·rfl
   ·rw [hq] at hn; simpa using hn
  ·have h2 := List.mem_range.1 hi
   have h3 : i < b.kids.length := by omega
   rw [Xu h2, Xu h3]
   refine (ih _ (List.getElem_mem h2) _).2 ?_
   have : (a.kids.map stripT)[i]? = (b.kids.map stripT)[i]? := by rw [hks]
   simpa [h2, h3] using this
end Go.Rk
namespace Go.Rk
open Go Go.RowKit
set_option linter.unusedVariables false
def RTx (f : Nat) (tx : Nd → Nat → List UInt8) (t : Nd) : Prop := ∀ (p : Option Addr) (c : Nat) (D : Nat → Prop) (k : Nat) (w : World), Kd w D t.kids (.slice p t.kids.length c) → (tx t k).length < 100000000 → k + count t ≤ 1000000 →
 Ret PP f #[ndV t (.slice p t.kids.length c), .int .i64 (k : Nat)] w fun r w' => r = Str (tx t k) ∧ G w w'
structure RPk (t : Nd) : Prop where
 ex : exprB t = true → okNd t → RTx Qya exT t
 st : stmtB t = true → okNd t → RTx Wna stT t
 fi : ifB t = true → okNd t → RTx fn_r03_ifText stT t
def RPel (t : Nd) : Prop := ∀ k, count k < count t → RPk k
theorem RPel.e {t : Nd} (ih : RPel t) {i : Nat} (h : i < t.kids.length) (hx : exprB (kidAt t i) = true) (hk : okNd t) : RTx Qya exT (kidAt t i) := (ih _ (Xf h)).ex hx (okNd_kidAt' hk h)
theorem rtabs_ok (k : Nat) (w : World) (hk : k ≤ 1000000) : Ret PP fn_r03_tabs #[.int .i64 (k : Nat)] w fun r w' => r = Str (tabsL k) ∧ G w w' := by
 have g := G.refl w
 refine Ym (m := 13) func_r03_tabs rfl rfl [(0, True, _)] (Za rfl (Zd _)) ?_
 refine Zg fun K1 hK1 => ?_
 refine Zf [3] ?_
 refine Zc rfl (fun _ => Ze Zl) ?_
 refine Zh (hK1 _ _ ?_)
 refine Zg fun K2 hK2 => ?_
 refine Zf [3] ?_
 refine Zc rfl (fun _ => Ze Zl) ?_
 refine Zh (hK2 _ _ ?_)
 refine Zg fun K3 hK3 => ?_
 refine Zg fun K4 hK4 => ?_
 refine Zf [3] ?_
 refine Zc rfl (fun _ => Ze Zl) ?_
 refine Zh (hK4 _ _ ?_)
 refine Yp ?_
 refine Wv (fun (i : Nat) u1 => (i ≤ k) ∧ G w u1) [(0, True, _), (2, True, _)] (fun (i : Nat) => [(3, True, Str (tabsL i)), (4, True, .int .i64 i)]) (fun (i : Nat) => k - i) (0) ⟨Nat.zero_le _, G.refl _⟩ (Za rfl (Za rfl (Za rfl (Za rfl (Zd _))))) ?_
 rintro i u1 ⟨hI1, gl1⟩
 have g := g.trans gl1
 refine Zg fun K5 hK5 => ?_
 refine Zg fun K6 hK6 => ?_
 refine Zf [3, 3, 3] ?_
 refine Zc rfl (fun _ => Zi (Zb rfl)) ?_
 refine Zc rfl (fun _ => Zi (Zb rfl)) ?_
 refine Zc rfl (fun _ => Vh (Zb rfl) (Zb rfl)) ?_
 refine Zj [(0, _, _), (2, _, _), (3, _, _), (4, _, _), (7, _, _)] (Za rfl (Za rfl (Za rfl (Za rfl (Za rfl (Zd _)))))) ?_
 refine Zh (hK6 _ _ ?_)
 refine Zz (Zb rfl) (fun h1 => ?_) (fun h1 => ?_)
 ·replace h1 : i < k := by simp only [decide_eq_true_eq] at h1; omega
  refine Yq (hK5 _ _ ?_)
  refine Yi [(0, _, _), (2, _, _), (3, _, _), (4, _, _)] (Za rfl (Za rfl (Za rfl (Za rfl (Zd _))))) ?_
  refine Zg fun K7 hK7 => ?_
  refine Yp ?_
  refine Zf [3, 3, 3] ?_
  refine Zc rfl (fun _ => Zi (Zb rfl)) ?_
  refine Zc rfl (fun _ => Uga (Zb rfl) Zl (fun _ => by first | omega | (simp only [tabsL, List.length_replicate, List.length_cons, List.length_nil]; omega))) ?_
  refine Zc rfl (fun _ => Ze (Zb rfl)) ?_
  refine Zj [(0, _, _), (2, _, _), (3, _, _), (4, _, _)] (Za rfl (Za rfl (Za rfl (Za rfl (Zd _))))) ?_
  refine Zh (hK7 _ _ ?_)
  refine Zf [3, 3, 3] ?_
  refine Zc rfl (fun _ => Zi (Zb rfl)) ?_
  refine Zc rfl (fun _ => Xq (Zb rfl) Zl (fun _ => by first | omega | (simp only [tabsL, List.length_replicate, List.length_cons, List.length_nil]; omega))) ?_
  refine Zc rfl (fun _ => Ze (Zb rfl)) ?_
  refine Zj [(3, _, _), (4, _, _), (0, _, _), (2, _, _)] (Za rfl (Za rfl (Za rfl (Za rfl (Zd _))))) ?_
  refine Zh (fun a ha => ?_)
  rw [show tabsL i ++ [9] = tabsL (i + 1) by rw [tabsL, tabsL, List.replicate_succ']] at ha
  exact ⟨i + 1, ha, ⟨h1, gl1⟩, by omega⟩
 replace h1 : i = k := by simp only [decide_eq_false_iff_not] at h1; omega
 refine Wa rfl (hK3 _ _ ?_)
 refine Yi [(2, _, _), (3, _, _)] (Za rfl (Za rfl (Zd _))) ?_
 refine Zg fun K8 hK8 => ?_
 refine Zf [3, 3] ?_
 refine Zc rfl (fun _ => Zi (Zb rfl)) ?_
 refine Zc rfl (fun _ => Ze (Zb rfl)) ?_
 refine Zh (hK8 _ _ ?_)
 refine Yf (Yj rfl rfl ?_)
 exact ⟨by rw [h1], g⟩
def lnT (l : List Nd) (k : Nat) : List UInt8 := l.flatMap fun c => (tabsL k ++ stT c k) ++ [10]
theorem lsX_snoc (l : List Nd) (k : Nat) {i : Nat} (h : i < l.length) : lnT (l.take (i + 1)) k = lnT (l.take i) k ++ ((tabsL k ++ stT l[i] k) ++ [10]) := by
 rw [lnT, Jv h, List.flatMap_append, lnT]; simp
theorem lsX_le (l : List Nd) (k i : Nat) : (lnT (l.take i) k).length ≤ (lnT l k).length := by
 conv => rhs; rw [lnT, ← List.take_append_drop i l, List.flatMap_append, List.length_append]
 exact Nat.le_add_right _ _
theorem rlines_ok {ks : List Nd} {c : Nat} {p : Option Addr} {D : Nat → Prop} {k : Nat} {w : World} (hst : ∀ x ∈ ks, RTx Wna stT x) (hk : Kd w D ks (.slice p ks.length c))
  (hlen : (lnT ks k).length < 100000000) (hc : k + (ks.map count).sum ≤ 1000000) :
  Ret PP fn_r03_lines #[.slice p ks.length c, .int .i64 (k : Nat)] w fun r w' => r = Str (lnT ks k) ∧ G w w' := by
 have g := G.refl w
 have hls := Ui ks
 obtain ⟨_, _, hpe, _, hks⟩ := id hk
 injection hpe with hpe _ hce
 subst hpe hce
 refine Ym (m := 26) Zic rfl rfl [(0, True, _), (1, True, _)] (Za rfl (Za rfl (Zd _))) ?_
 refine Zg fun K1 hK1 => ?_
 refine Zf [3] ?_
 refine Zc rfl (fun _ => Ze Zl) ?_
 refine Zh (hK1 _ _ ?_)
 refine Zg fun K2 hK2 => ?_
 refine Zf [3] ?_
 refine Zc rfl (fun _ => Ze Zl) ?_
 refine Zh (hK2 _ _ ?_)
 refine Zg fun K3 hK3 => ?_
 refine Zg fun K4 hK4 => ?_
 refine Zf [3] ?_
 refine Zc rfl (fun _ => Ze Zl) ?_
 refine Zh (hK4 _ _ ?_)
 refine Yp ?_
 refine Wv (fun (i : Nat) u1 => (i ≤ ks.length) ∧ G w u1) [(0, True, _), (1, True, _), (4, True, _)] (fun (i : Nat) => [(5, True, Str (lnT (ks.take i) k)), (6, True, .int .i64 i)]) (fun (i : Nat) => ks.length - i) (0) ⟨Nat.zero_le _, G.refl _⟩ (Za rfl (Za rfl (Za rfl (Za rfl (Za rfl (Zd _)))))) ?_
 rintro i u1 ⟨hI1, gl1⟩
 have g := g.trans gl1
 refine Zg fun K5 hK5 => ?_
 refine Zg fun K6 hK6 => ?_
 refine Zf [3, 3, 3, 3] ?_
 refine Zc rfl (fun _ => Zi (Zb rfl)) ?_
 refine Zc rfl (fun _ => Zi (Zb rfl)) ?_
 refine Zc rfl (fun _ => Xx Zo (Zb rfl)) ?_
 refine Zc rfl (fun _ => Vh (Zb rfl) (Zb rfl)) ?_
 refine Zj [(0, _, _), (1, _, _), (4, _, _), (5, _, _), (6, _, _), (10, _, _)] (Za rfl (Za rfl (Za rfl (Za rfl (Za rfl (Za rfl (Zd _))))))) ?_
 refine Zh (hK6 _ _ ?_)
 refine Zz (Zb rfl) (fun h1 => ?_) (fun h1 => ?_)
 ·replace h1 : i < ks.length := by simp only [decide_eq_true_eq] at h1; omega
  obtain ⟨b9, o9, rfl, hD9, xs, hR, hX⟩ := hks (by omega)
  obtain ⟨p9, c9, hcell, hkid⟩ := Yna hR hX h1
  have hjs := lsX_snoc ks k h1
  have hjl := lsX_le ks k (i + 1)
  rw [hjs] at hjl
  simp only [Xec, Xfc, Xgc, Xhc, Xic, Xjc, tabsL, Xkc] at hjl
  have hcs := Vvb ks h1
  refine Yq (hK5 _ _ ?_)
  refine Yi [(0, _, _), (1, _, _), (4, _, _), (5, _, _), (6, _, _)] (Za rfl (Za rfl (Za rfl (Za rfl (Za rfl (Zd _)))))) ?_
  refine Zg fun K7 hK7 => ?_
  refine Yp ?_
  skip
  refine Vm [3, 3, 1, 3, 3, 3, 0, 3, 1, 3, 3, 3, 3] [true, true, true, false, false, false, false, false, true, true, true, true, true] [0, 0, 2, 0, 0, 24, 56, 0, 254, 510, 1022, 2047, 4095] mix (by kernel_rfl) ?_
  have g := g.trans (G.drew _)
  try have gl1 := gl1.trans (G.drew _)
  have hcS := hcell.grow g
  refine Zc rfl (fun _ => Zi (Zb rfl)) ?_
  refine Zc rfl (fun _ => Zi (Zb rfl)) ?_
  refine Yd rfl (Zu Ucb Yl (Zk (Zb rfl) (Zn)) rfl) (rtabs_ok k _ (by omega)) ?_
  rintro v15 w15 ⟨rfl, g15⟩
  refine ⟨fun _ => g15, ?_⟩
  have g := g.trans (g15)
  try have gl1 := gl1.trans (g15)
  refine Zc rfl (fun _ => Zi (Zb rfl)) ?_
  refine Zc rfl (fun _ => Zi (Zb rfl)) ?_
  refine Zc rfl (fun _ => Uc Zo (Zb rfl) (Zb rfl) (fun _ => by first | omega | (simp only [Xec, Xfc, Xgc, Xhc, Xic, Xjc, tabsL, Xkc]; omega))) ?_
  refine sr_rd0 rfl (Yb Zr (Zb rfl) rfl (fun _ => hcS)) ?_
  refine Zc rfl (fun _ => Zi (Zb rfl)) ?_
  refine Yd rfl (Zu go_r03_stmt Yl (Zk (Zb rfl) (Zk (Zb rfl) (Zn))) rfl) (hst ks[i] (List.getElem_mem h1) _ _ D k _ (hkid.grow g) (by omega) (by omega)) ?_
  rintro v21 w21 ⟨rfl, g21⟩
  refine ⟨fun _ => g21, ?_⟩
  have g := g.trans (g21)
  try have gl1 := gl1.trans (g21)
  refine Zc rfl (fun _ => Uga (Zb rfl) (Zb rfl) (fun _ => by first | omega | (simp only [Xec, Xfc, Xgc, Xhc, Xic, Xjc, tabsL, Xkc]; omega))) ?_
  refine Zc rfl (fun _ => Uga (Zb rfl) Zl (fun _ => by first | omega | (simp only [Xec, Xfc, Xgc, Xhc, Xic, Xjc, tabsL, Xkc]; omega))) ?_
  refine Zc rfl (fun _ => Uga (Zb rfl) (Zb rfl) (fun _ => by first | omega | (simp only [Xec, Xfc, Xgc, Xhc, Xic, Xjc, tabsL, Xkc]; omega))) ?_
  refine Zc rfl (fun _ => Ze (Zb rfl)) ?_
  refine Zj [(0, _, _), (1, _, _), (4, _, _), (5, _, _), (6, _, _)] (Za rfl (Za rfl (Za rfl (Za rfl (Za rfl (Zd _)))))) ?_
  refine Zh (hK7 _ _ ?_)
  refine Zf [3, 3, 3] ?_
  refine Zc rfl (fun _ => Zi (Zb rfl)) ?_
  refine Zc rfl (fun _ => Xq (Zb rfl) Zl (fun _ => by first | omega | (simp only [Xec, Xfc, Xgc, Xhc, Xic, Xjc, tabsL, Xkc]; omega))) ?_
  refine Zc rfl (fun _ => Ze (Zb rfl)) ?_
  refine Zj [(5, _, _), (6, _, _), (0, _, _), (1, _, _), (4, _, _)] (Za rfl (Za rfl (Za rfl (Za rfl (Za rfl (Zd _)))))) ?_
  refine Zh (fun a ha => ?_)
  rw [← hjs] at ha
  exact ⟨i + 1, ha, ⟨h1, gl1⟩, by omega⟩
 replace h1 : i = ks.length := by simp only [decide_eq_false_iff_not] at h1; omega
 refine Wa rfl (hK3 _ _ ?_)
 refine Yi [(4, _, _), (5, _, _)] (Za rfl (Za rfl (Zd _))) ?_
 refine Zg fun K8 hK8 => ?_
 refine Zf [3, 3] ?_
 refine Zc rfl (fun _ => Zi (Zb rfl)) ?_
 refine Zc rfl (fun _ => Ze (Zb rfl)) ?_
 refine Zh (hK8 _ _ ?_)
 refine Yf (Yj rfl rfl ?_)
 exact ⟨by rw [h1, List.take_length], g⟩
theorem rblock_ok {t : Nd} (hst : ∀ x ∈ t.kids, RTx Wna stT x) : RTx Uma blkT t := by
 intro p c D k w hk0 hlen hc
 have g := G.refl w
 have hcn : count t = 1 + (t.kids.map count).sum := Ww t
 have e : blkT t k = (([123, 10] ++ lnT t.kids (k + 1)) ++ tabsL k) ++ [125] := by rw [blkT, blkX, ls_eq']; rfl
 rw [e] at hlen
 simp only [Xec, Xfc, Xgc, Xhc, Xic, Xjc, tabsL, Xkc] at hlen
 refine Ym (m := 15) Zcc rfl rfl [(0, True, _), (1, True, _)] (Za rfl (Za rfl (Zd _))) ?_
 refine Zg fun K1 hK1 => ?_
 refine Zf [1, 3] ?_
 refine Wd rfl (Zb rfl) rfl ?_
 intro b2 w2 N2
 have l2 := N2.ge g
 have g := g.trans (N2.g)
 have hk0 := hk0.grow (N2.g)
 have B2 := N2.blk
 refine Zc rfl (fun _ => Ze Zl) ?_
 refine Zj [(1, _, _), (2, _, _), (4, _, _)] (Za rfl (Za rfl (Za rfl (Zd _)))) ?_
 refine Zh (hK1 _ _ ?_)
 refine Zg fun K2 hK2 => ?_
 refine Zf [3, 0, 3, 3, 1, 3, 3, 1, 3, 3, 3] ?_
 refine Zc rfl (fun _ => Zm Zv (Zb rfl)) ?_
 refine Ya rfl (Zt Zq (Zb rfl) (fun _ => B2.at_ rfl)) ?_
 refine Zc rfl (fun _ => Zi (Zb rfl)) ?_
 refine Zc rfl (fun _ => Xq (Zb rfl) Zl (fun _ => by first | omega | (simp only [Xec, Xfc, Xgc, Xhc, Xic, Xjc, tabsL, Xkc]; omega))) ?_
 refine Yd rfl (Zu go_r03_lines Yl (Zk (Zb rfl) (Zk (Zb rfl) (Zn))) rfl) (rlines_ok (k := k + 1) hst hk0 (by first | omega | (simp only [Xec, Xfc, Xgc, Xhc, Xic, Xjc, tabsL, Xkc]; omega)) (by omega)) ?_
 rintro v9 w9 ⟨rfl, g9⟩
 refine ⟨fun _ => g9, ?_⟩
 have g := g.trans (g9)
 replace B2 := B2.grow (g9)
 have hk0 := hk0.grow (g9)
 refine Zc rfl (fun _ => Uga Zl (Zb rfl) (fun _ => by first | omega | (simp only [Xec, Xfc, Xgc, Xhc, Xic, Xjc, tabsL, Xkc]; omega))) ?_
 refine Zc rfl (fun _ => Zi (Zb rfl)) ?_
 refine Yd rfl (Zu Ucb Yl (Zk (Zb rfl) (Zn)) rfl) (rtabs_ok k _ (by omega)) ?_
 rintro v12 w12 ⟨rfl, g12⟩
 refine ⟨fun _ => g12, ?_⟩
 have g := g.trans (g12)
 replace B2 := B2.grow (g12)
 have hk0 := hk0.grow (g12)
 refine Zc rfl (fun _ => Uga (Zb rfl) (Zb rfl) (fun _ => by first | omega | (simp only [Xec, Xfc, Xgc, Xhc, Xic, Xjc, tabsL, Xkc]; omega))) ?_
 refine Zc rfl (fun _ => Uga (Zb rfl) Zl (fun _ => by first | omega | (simp only [Xec, Xfc, Xgc, Xhc, Xic, Xjc, tabsL, Xkc]; omega))) ?_
 refine Zc rfl (fun _ => Ze (Zb rfl)) ?_
 refine Zj [(4, _, _)] (Za rfl (Zd _)) ?_
 refine Zh (hK2 _ _ ?_)
 refine Yf (Yj rfl rfl ?_)
 exact ⟨by rw [e], g⟩
end Go.Rk
namespace Go.Rk
open Go Go.RowKit
set_option linter.unusedVariables false
theorem RPel.es {t : Nd} (ih : RPel t) (hx : t.kids.all exprB = true) (hk : okNd t) : ∀ x ∈ t.kids, RTx Qya exT x := fun x hm => (ih x (Xz hm)).ex (List.all_eq_true.1 hx x hm) (Vc hk hm)
theorem RPel.b {t : Nd} (ih : RPel t) {i : Nat} (h : i < t.kids.length) (hx : blockB (kidAt t i) = true) (hk : okNd t) : RTx Uma blkT (kidAt t i) := by
 have hs := List.all_eq_true.1 (sh10 hx)
 exact rblock_ok fun x hm => (ih x (Nat.lt_trans (Xz hm) (Xf h))).st (hs x hm) (Vc (okNd_kidAt' hk h) hm)
theorem RPel.b0 {t : Nd} (ih : RPel t) (hx : blockB t = true) (hk : okNd t) : RTx Uma blkT t := by
 have hs := List.all_eq_true.1 (sh10 hx)
 exact rblock_ok fun x hm => (ih x (Xz hm)).st (hs x hm) (Vc hk hm)
def accT (t : Nd) (k i : Nat) : List UInt8 := bif Nat.ble i 1 then parX (memK [32, 31, 33] (kidAt t 0).kind) (exT (kidAt t 0) k) ++ [40] else (parX (memK [32, 31, 33] (kidAt t 0).kind) (exT (kidAt t 0) k) ++ [40]) ++ joinX (((t.kids.take i).drop 1).map fun y => exT y k)
end Go.Rk
namespace Go.Rk
open Go Go.RowKit
set_option linter.unusedVariables false
theorem RPel.s {t : Nd} (ih : RPel t) {i : Nat} (h : i < t.kids.length) (hx : stmtB (kidAt t i) = true) (hk : okNd t) : RTx Wna stT (kidAt t i) := (ih _ (Xf h)).st hx (okNd_kidAt' hk h)
end Go.Rk
namespace Go.Rk
open Go Go.RowKit
set_option linter.unusedVariables false
end Go.Rk
namespace Go.Rk
open Go Go.RowKit
set_option linter.unusedVariables false
def csL (l : List Nd) (k : Nat) : List UInt8 := l.flatMap fun y => (txT y).cs k
end Go.Rk
namespace Go.Rk
open Go Go.RowKit
set_option linter.unusedVariables false
end Go.Rk
namespace Go.Rk
open Go Go.RowKit
set_option linter.unusedVariables false
def flS (l : List Nd) : List UInt8 := l.flatMap fun f => ((([9] ++ f.text) ++ [32]) ++ typeX (kidAt f 0)) ++ [10]
def accS (t : Nd) (i : Nat) : List UInt8 := bif Nat.ble i 0 then ([116, 121, 112, 101, 32] ++ t.text) ++ [32, 115, 116, 114, 117, 99, 116, 32, 123, 10] else (([116, 121, 112, 101, 32] ++ t.text) ++ [32, 115, 116, 114, 117, 99, 116, 32, 123, 10]) ++ flS (t.kids.take i)
def parP (l : List Nd) : List UInt8 := joinX (l.map fieldX)
def accP (t : Nd) (ps : List Nd) (i : Nat) : List UInt8 := bif Nat.ble i 0 then ([102, 117, 110, 99, 32] ++ t.text) ++ [40] else (([102, 117, 110, 99, 32] ++ t.text) ++ [40]) ++ parP (ps.take i)
end Go.Rk
namespace Go.Rk
open Go Go.RowKit
set_option linter.unusedVariables false
def bnd (N : Nat) (t : Nd) : Nat := weight t + count t * (200 + 4 * N)
theorem sum_bnd (N : Nat) : ∀ (l : List Nd), (l.map (bnd N)).sum = (l.map weight).sum + (l.map count).sum * (200 + 4 * N)
 | [] => by simp
 | t :: l => by simp only [List.map_cons, List.sum_cons, sum_bnd N l, bnd]; rw [Nat.add_mul]; omega
theorem Yxb (N : Nat) (t : Nd) : bnd N t = 1 + t.text.length + (200 + 4 * N) + (t.kids.map (bnd N)).sum := by
 rw [sum_bnd, bnd, Vkb, Ww, Nat.add_mul]; omega
theorem Qo {b : Bool} {x y : List UInt8} {n : Nat} (hx : x.length ≤ n) (hy : y.length ≤ n) : (bif b then x else y).length ≤ n := by cases b <;> assumption
theorem parX_le (q : Bool) (s : List UInt8) : (parX q s).length ≤ s.length + 2 := by cases q <;> simp [parX]
theorem digL_le (n : Nat) : (digL n).length ≤ 20 := by
 have : ∀ f n, (digF f n).length ≤ f := by
  intro f
  induction f with
  | zero => intro n; simp [digF]
  | succ f ih =>
   intro n
   rw [digF]
   cases Nat.blt n 10
   ·have := ih (n / 10)
    simp; omega
   ·simp
 exact this 20 n
theorem typeX_le (t : Nd) : (typeX t).length ≤ t.text.length + 9 := by
 unfold typeX
 refine Qo (by simp) (Qo (by simp) (Qo (by simp) (by omega)))
theorem fm_le {ks : List Nd} {f : Nd → List UInt8} {g : Nd → Nat} (h : ∀ y ∈ ks, (f y).length ≤ g y) : (ks.flatMap f).length ≤ (ks.map g).sum := by
 induction ks with
 | nil => simp
 | cons a l ih => have := h a List.mem_cons_self; have := ih fun y hy => h y (List.mem_cons_of_mem _ hy); rw [List.flatMap_cons, List.length_append, List.map_cons, List.sum_cons]; omega
theorem jn_le {ks : List Nd} {f : Nd → List UInt8} {g : Nd → Nat} (h : ∀ y ∈ ks, (f y).length + 2 ≤ g y) : (joinX (ks.map f)).length ≤ (ks.map g).sum := by
 cases ks with
 | nil => simp [joinX]
 | cons a l =>
  have h0 := h a List.mem_cons_self
  have : ((l.map f).flatMap fun u => [44, 32] ++ u).length ≤ (l.map g).sum := by
   rw [List.flatMap_map]; exact fm_le fun y hy => by have := h y (List.mem_cons_of_mem _ hy); simp; omega
  rw [List.map_cons, joinX, List.length_append]; simp only [List.map_cons, List.sum_cons]; omega
theorem get3_le : ∀ (l : List Nat), l.getD 0 0 + l.getD 1 0 + l.getD 2 0 ≤ l.sum
 | [] => by simp
 | [a] => by simp
 | [a, b] => by simp
 | a :: b :: c :: l => by simp; omega
theorem Wwa (k : Nat) : (tabsL k).length = k := by simp [tabsL]
structure TxB (N : Nat) (t : Nd) (k : Nat) : Prop where
 ex : ((txT t).ex k).length + N + 10 ≤ bnd N t
 st : ((txT t).st k).length + N + 10 ≤ bnd N t
 cs : ((txT t).cs k).length + N + 10 ≤ bnd N t
 ls : ((txT t).ls k).length ≤ bnd N t
theorem ls_le {N : Nat} {t : Nd} {k : Nat} (hk : k ≤ N) (h : ∀ y ∈ t.kids, ((txT y).st k).length + N + 10 ≤ bnd N y) : ((txT t).ls k).length ≤ (t.kids.map (bnd N)).sum := by
 rw [Unb]
 exact fm_le fun y hy => by have := h y hy; simp only [List.length_append, Wwa, List.length_cons, List.length_nil]; omega
set_option maxHeartbeats 2000000 in
theorem tx_le (N : Nat) : ∀ (t : Nd) (k : Nat), k + count t ≤ N → TxB N t k := by
 refine Nd.ind fun t ih k hk => ?_
 have S : ∀ y ∈ t.kids, TxB N y k := fun y hy => ih y hy k (by have := Xz hy; omega)
 have S1 : ∀ y ∈ t.kids, TxB N y (k + 1) := fun y hy => ih y hy (k + 1) (by have := Xz hy; omega)
 have hb := Yxb N t
 obtain ⟨s, hs⟩ : ∃ s, s = (t.kids.map (bnd N)).sum := ⟨_, rfl⟩
 obtain ⟨b, hbd⟩ : ∃ b : Nat → Nat, b = fun i => (t.kids.map (bnd N)).getD i 0 := ⟨_, rfl⟩
 have h3 : b 0 + b 1 + b 2 ≤ s := by rw [hbd, hs]; exact get3_le _
 obtain ⟨x, hx⟩ : ∃ x : Nat → Tx, x = fun i => (t.kids.map txT).getD i tx0 := ⟨_, rfl⟩
 have hin : ∀ i (h : i < t.kids.length), x i = txT t.kids[i] ∧ b i = bnd N t.kids[i] := fun i h => by
  rw [hx, hbd]; simp [List.getD_eq_getElem?_getD, List.getElem?_eq_getElem h]
 have hout : ∀ i, ¬ i < t.kids.length → x i = tx0 ∧ b i = 0 := fun i h => by
  rw [hx, hbd]; simp only [List.getD_eq_getElem?_getD, List.getElem?_map]; rw [List.getElem?_eq_none (by omega)]; simp
 have xe : ∀ i, ((x i).ex k).length ≤ b i := fun i => by
  by_cases h : i < t.kids.length
  ·rw [(hin i h).1, (hin i h).2]; have := (S _ (List.getElem_mem h)).ex; omega
  ·rw [(hout i h).1]; exact Nat.zero_le _
 have xs : ∀ i, ((x i).st k).length ≤ b i := fun i => by
  by_cases h : i < t.kids.length
  ·rw [(hin i h).1, (hin i h).2]; have := (S _ (List.getElem_mem h)).st; omega
  ·rw [(hout i h).1]; exact Nat.zero_le _
 have xl : ∀ i, ((x i).ls (k + 1)).length ≤ b i := fun i => by
  by_cases h : i < t.kids.length
  ·rw [(hin i h).1, (hin i h).2]
   exact (S1 _ (List.getElem_mem h)).ls
  ·rw [(hout i h).1]; exact Nat.zero_le _
 have xb : ∀ i, (blkX (x i) k).length ≤ b i + k + 3 := fun i => by have := xl i; simp only [blkX, List.length_append, Wwa, List.length_cons, List.length_nil]; omega
 have ty : (typeX (kidAt t 0)).length ≤ b 0 + 9 := by
  have := typeX_le (kidAt t 0)
  by_cases h : 0 < t.kids.length
  ·rw [(hin 0 h).2]; rw [Xu h] at this ⊢; have := Yxb N t.kids[0]; omega
  ·rw [Xma h] at this ⊢; exact Nat.le_trans this (by show 0 + 9 ≤ _; omega)
 have xo : ∀ i, (oprX t x i k).length ≤ b i + 2 := fun i => by have := parX_le (decide ((kidAt t i).kind = 32)) ((x i).ex k); have := xe i; unfold oprX; omega
 have xba : (basX t x k).length ≤ b 0 + 2 := by have := parX_le ((decide ((kidAt t 0).kind = 32) || decide ((kidAt t 0).kind = 31)) || decide ((kidAt t 0).kind = 33)) ((x 0).ex k); have := xe 0; unfold basX; omega
 have xj : (basX t x k).length + (joinX (((t.kids.map txT).drop 1).map fun y => y.ex k)).length ≤ s + 2 := by
  cases hks : t.kids with
  | nil => simp only [List.map_nil, List.drop_nil, joinX, List.length_nil]; omega
  | cons a l =>
   have h1 : (joinX ((l.map txT).map fun y => y.ex k)).length ≤ (l.map (bnd N)).sum := by
    rw [List.map_map]; exact jn_le fun y hy => by have := (S y (by rw [hks]; exact List.mem_cons_of_mem _ hy)).ex; show ((txT y).ex k).length + 2 ≤ _; omega
   have h2 : b 0 = bnd N a := by rw [hbd]; simp [hks]
   have h4 : s = bnd N a + (l.map (bnd N)).sum := by rw [hs, hks]; simp
   simp only [List.map_cons, List.drop_succ_cons, List.drop_zero]; omega
 have x0 := xe 0; have x1 := xe 1; have x2 := xe 2; have o0 := xo 0; have o1 := xo 1; have y0 := xs 0; have y2 := xs 2; have z1 := xb 1; have z0 := xb 0; have z2 := xb 2; have l1 := xl 1
 have hbl : ((t.kids.map txT).flatMap fun y => (tabsL (k + 1) ++ y.st (k + 1)) ++ [10]).length ≤ s := by
  rw [List.flatMap_map, hs]; exact fm_le fun y hy => by have := (S1 y hy).st; have := Wg y; have := Xz hy; simp only [List.length_append, Wwa, List.length_cons, List.length_nil]; omega
 have hcl : ((t.kids.map txT).flatMap fun y => y.cs k).length ≤ s := by
  rw [List.flatMap_map, hs]; exact fm_le fun y hy => by have := (S y hy).cs; omega
 have hcp := Wg t
 have E : (exX t x (t.kids.map txT) k).length ≤ 1 + t.text.length + (100 + 3 * N) + s := by
  unfold exX
  have := digL_le t.num.toNat
  generalize digL t.num.toNat = dg at this ⊢
  repeat' (refine Qo ?_ ?_)
  all_goals first
   | omega
   | (simp only [List.length_append, List.length_cons, List.length_nil]; omega)
   | (refine Qo ?_ ?_ <;> first | omega | (simp only [List.length_append, List.length_cons, List.length_nil]; omega))
 have V : (varX t x k).length ≤ 1 + t.text.length + (100 + 3 * N) + s := by
  unfold varX
  have : (bif decide ((kidAt t 1).kind = 9) then [] else [32, 61, 32] ++ (x 1).ex k).length ≤ b 1 + 3 := Qo (by simp) (by simp; omega)
  simp only [List.length_append, List.length_cons, List.length_nil]; omega
 have I : (ifX t x k).length ≤ 1 + t.text.length + (100 + 3 * N) + s := by
  unfold ifX
  have : (bif decide ((kidAt t 2).kind = 10) then [32, 101, 108, 115, 101, 32] ++ blkX (x 2) k else bif decide ((kidAt t 2).kind = 18) then [32, 101, 108, 115, 101, 32] ++ (x 2).st k else []).length ≤ b 2 + k + 9 := Qo (by simp; omega) (Qo (by simp; omega) (by simp))
  simp only [List.length_append, List.length_cons, List.length_nil]; omega
 have T : (stX t x (t.kids.map txT) k).length ≤ 1 + t.text.length + (100 + 3 * N) + s := by
  unfold stX
  repeat' (refine Qo ?_ ?_)
  all_goals first
   | exact V
   | exact I
   | omega
   | (simp only [List.length_append, List.length_cons, List.length_nil, Wwa]; omega)
   | (refine Qo ?_ ?_ <;> first | omega | (simp only [List.length_append, List.length_cons, List.length_nil, Wwa]; omega))
 have C : (csX t x k).length ≤ 1 + t.text.length + (100 + 3 * N) + s := by
  unfold csX
  have : (bif decide ((kidAt t 0).kind = 9) then tabsL k ++ [100, 101, 102, 97, 117, 108, 116, 58, 10] else ((tabsL k ++ [99, 97, 115, 101, 32]) ++ (x 0).st k) ++ [58, 10]).length ≤ b 0 + k + 20 := Qo (by simp [Wwa]; omega) (by simp [Wwa]; omega)
  rw [List.length_append]; omega
 subst hx
 refine ⟨?_, ?_, ?_, ?_⟩
 ·rw [Wm]; show (exX t _ (t.kids.map txT) k).length + N + 10 ≤ _; omega
 ·rw [Wm]; show (stX t _ (t.kids.map txT) k).length + N + 10 ≤ _; omega
 ·rw [Wm]; exact (by omega : (csX t (fun i => (t.kids.map txT).getD i tx0) k).length + N + 10 ≤ bnd N t)
 ·have := ls_le (N := N) (t := t) (k := k) (by omega) fun y hy => (S y hy).st; omega
theorem tyk_le (N : Nat) (f : Nd) (i : Nat) : (typeX (kidAt f i)).length ≤ (f.kids.map (bnd N)).getD i 0 + 9 := by
 have := typeX_le (kidAt f i)
 by_cases h : i < f.kids.length
 ·rw [Xu h] at this ⊢; have := Yxb N f.kids[i]; simp only [List.getD_eq_getElem?_getD, List.getElem?_map, List.getElem?_eq_getElem h, Option.map_some, Option.getD_some]; omega
 ·rw [Xma h] at this ⊢; exact Nat.le_trans this (by show 0 + 9 ≤ _; omega)
theorem fieldX_le (N : Nat) (f : Nd) : (fieldX f).length + 190 ≤ bnd N f := by
 have h1 := tyk_le N f 0
 have h2 := get3_le (f.kids.map (bnd N))
 have h3 := Yxb N f
 simp only [fieldX, List.length_append, List.length_cons, List.length_nil]; omega
set_option maxHeartbeats 1000000 in
theorem declX_le {N : Nat} {t : Nd} (h : count t ≤ N) : (declX t).length + 1 ≤ bnd N t := by
 have hb := Yxb N t
 have h3 := get3_le (t.kids.map (bnd N))
 have t1 := tyk_le N t 1
 have e0 := (tx_le N t 0 (by omega)).st
 have hf : (t.kids.flatMap fun f => (((([9] ++ f.text) ++ [32]) ++ typeX (kidAt f 0)) ++ [10])).length ≤ (t.kids.map (bnd N)).sum := fm_le fun y hy => by
  have := fieldX_le N y
  simp only [fieldX, List.length_append, List.length_cons, List.length_nil] at this ⊢; omega
 have hp : (joinX ((kidAt t 0).kids.map fieldX)).length ≤ (t.kids.map (bnd N)).getD 0 0 := by
  have h1 : (joinX ((kidAt t 0).kids.map fieldX)).length ≤ ((kidAt t 0).kids.map (bnd N)).sum := jn_le fun y hy => by have := fieldX_le N y; omega
  by_cases h : 0 < t.kids.length
  ·have h2 := Yxb N (kidAt t 0)
   have h4 : (t.kids.map (bnd N)).getD 0 0 = bnd N (kidAt t 0) := by rw [Xu h]; simp [List.getD_eq_getElem?_getD, List.getElem?_eq_getElem h]
   omega
  ·rw [Xma h]; simp [nd0, Nd.kids, joinX]
 have hl : (blkX (txT (kidAt t 2)) 0).length ≤ (t.kids.map (bnd N)).getD 2 0 + 3 := by
  have h1 : ((txT (kidAt t 2)).ls (0 + 1)).length ≤ (t.kids.map (bnd N)).getD 2 0 := by
   by_cases h : 2 < t.kids.length
   ·have h4 : (t.kids.map (bnd N)).getD 2 0 = bnd N (kidAt t 2) := by rw [Xu h]; simp [List.getD_eq_getElem?_getD, List.getElem?_eq_getElem h]
    rw [h4]; exact (tx_le N (kidAt t 2) 1 (by have := Xf h; omega)).ls
   ·rw [Xma h]; exact Nat.le_trans (by decide : _ ≤ 0) (Nat.zero_le _)
  simp only [blkX, List.length_append, Wwa, List.length_cons, List.length_nil]; omega
 have hr : (bif decide ((kidAt t 1).kind = 9) then [] else typeX (kidAt t 1) ++ [32]).length ≤ (t.kids.map (bnd N)).getD 1 0 + 10 := Qo (Nat.zero_le _) (by rw [List.length_append]; show _ + 1 ≤ _; omega)
 unfold declX
 refine Nat.add_le_of_le_sub (by omega) (Qo ?_ (Qo ?_ ?_))
 ·omega
 ·simp only [List.length_append, List.length_cons, List.length_nil] at hf ⊢; omega
 ·simp only [List.length_append, List.length_cons, List.length_nil]; omega
theorem printX_le (t : Nd) : (printX t).length ≤ bnd (count t) t := by
 unfold printX
 refine Qo ?_ (by simp)
 have hb := Yxb (count t) t
 have : (t.kids.flatMap fun d => declX d ++ [10]).length ≤ (t.kids.map (bnd (count t))).sum := fm_le fun y hy => by
  have := declX_le (N := count t) (t := y) (by have := Xz hy; omega)
  simp only [List.length_append, List.length_cons, List.length_nil]; omega
 omega
end Go.Rk
namespace Go.Rk
open Go Go.RowKit
set_option linter.unusedVariables false
theorem Uob {t : Nd} (hc : count t ≤ 300) (hw : weight t ≤ 1048576) : (printX t).length < 100000000 := by
 have h := printX_le t
 have : count t * (200 + 4 * count t) ≤ 300 * 1400 := Nat.mul_le_mul hc (by omega)
 unfold bnd at h; omega
end Go.Rk
namespace Go.Rk
open Go Go.RowKit
set_option linter.unusedVariables false
abbrev Bs := List UInt8
def cut : Bs → Bs → Option Bs
 | [], s => some s
 | _ :: _, [] => none
 | a :: p, b :: s => bif decide (a = b) then cut p s else none
theorem Xg : ∀ (p r : Bs), cut p (p ++ r) = some r
 | [], r => rfl
 | a :: p, r => by rw [List.cons_append, cut, decide_eq_true rfl, cond_true]; exact Xg p r
def hd (s : Bs) : UInt8 := s.headD 0
def wdF (s : Bs) : Bs := s.takeWhile alB
def wrF (s : Bs) : Bs := s.dropWhile alB
def dgB (c : UInt8) : Bool := digitB c.toNat
def nb (s : Bs) : Bool := !alB (hd s)
theorem Vt {n r : Bs} (hn : n.all alB = true) (hr : nb r = true) : wdF (n ++ r) = n ∧ wrF (n ++ r) = r := by
 induction n with
 | nil =>
  cases r with
  | nil => exact ⟨rfl, rfl⟩
  | cons a r =>
   have h : alB a = false := by simpa [nb, hd] using hr
   simp [wdF, wrF, h]
 | cons a n ih =>
  simp only [List.all_cons, Bool.and_eq_true] at hn
  obtain ⟨h1, h2⟩ := ih hn.2
  unfold wdF at h1 ⊢
  unfold wrF at h2 ⊢
  simp [hn.1, h1, h2]
def cutOps : List Bs → Bs → Option (Bs × Bs)
 | [], _ => none
 | o :: l, s => match cut (o ++ [32]) s with
  | some r => some (o, r)
  | none => cutOps l s
def cutOp (s : Bs) : Option (Bs × Bs) := match cut [32] s with
 | some r => cutOps binOps r
 | none => none
theorem cutOp_app {o : Bs} (h : anyS binOps o = true) (r : Bs) : cutOp ([32] ++ (o ++ ([32] ++ r))) = some (o, r) := by
 have h := (Ypa _ _).1 h
 simp only [binOps, List.mem_cons, List.not_mem_nil, or_false] at h
 rcases h with h | h | h | h | h | h | h | h | h | h | h | h | h <;> subst h <;> rfl
def nd (k : Int) (s : Bs) (n : Int) (ks : List Nd) : Nd := .mk k s n 0 ks ty0 0 0
inductive Md where
 | e | u | s (x : Nd) | a (l : List Nd) | b | l (l : List Nd) | t | i | c (l : List Nd)
def tyP (s : Bs) : Option (Nd × Bs) := match cut [42] s with
 | some r => some (nd 8 (wdF r) 0 [], wrF r)
 | none => match cut [91, 93, 105, 110, 116] s with
  | some r => some (nd 7 [91, 93, 105, 110, 116] 0 [], r)
  | none =>
   bif decide (wdF s = [99, 104, 97, 110]) then (cut [32, 105, 110, 116] (wrF s)).map fun r => (nd 7 [99, 104, 97, 110] 0 [], r)
   else bif decide (wdF s = [102, 117, 110, 99]) then (cut [40, 41] (wrF s)).map fun r => (nd 7 [102, 117, 110, 99] 0 [], r)
   else some (nd 7 (wdF s) 0 [], wrF s)
section
variable (p : Md → Bs → Option (Nd × Bs))
def atP (s : Bs) : Option (Nd × Bs) :=
 match cut [40] s with
 | some r => (p .e r).bind fun x => (cut [41] x.2).map fun r => (x.1, r)
 | none =>
  bif dgB (hd s) then some (nd 24 [] (valN 0 (s.takeWhile dgB)) [], s.dropWhile dgB)
  else bif decide (wdF s = [116, 114, 117, 101]) then some (nd 25 [] 1 [], wrF s)
  else bif decide (wdF s = [102, 97, 108, 115, 101]) then some (nd 25 [] 0 [], wrF s)
  else bif decide (wdF s = [110, 105, 108]) then some (nd 26 [] 0 [], wrF s)
  else bif decide (wdF s = [110, 101, 119]) then (cut [40] (wrF s)).bind fun r => (cut [41] (wrF r)).map fun r1 => (nd 34 (wdF r) 0 [], r1)
  else bif decide (wdF s = [109, 97, 107, 101]) then
   match cut [40, 91, 93, 105, 110, 116, 44, 32] (wrF s) with
   | some r => (p .e r).bind fun x => (cut [41] x.2).map fun r => (nd 35 [] 0 [x.1], r)
   | none => (cut [40, 99, 104, 97, 110, 32, 105, 110, 116, 44, 32] (wrF s)).bind fun r => (p .e r).bind fun x => (cut [41] x.2).map fun r => (nd 36 [] 0 [x.1], r)
  else bif decide (wdF s = [108, 101, 110]) then (cut [40] (wrF s)).bind fun r => (p .e r).bind fun x => (cut [41] x.2).map fun r => (nd 37 [] 0 [x.1], r)
  else bif decide (wdF s = [102, 117, 110, 99]) then (cut [40, 41, 32, 123, 10] (wrF s)).bind fun r => (p .b r).map fun x => (nd 38 [] 0 [x.1], x.2)
  else some (nd 27 (wdF s) 0 [], wrF s)
def unP (s : Bs) : Option (Nd × Bs) :=
 match cut [45] s with
 | some r => (p .u r).map fun x => (nd 31 [45] 0 [x.1], x.2)
 | none => match cut [33] s with
  | some r => (p .u r).map fun x => (nd 31 [33] 0 [x.1], x.2)
  | none => match cut [60, 45] s with
   | some r => (p .u r).map fun x => (nd 33 [] 0 [x.1], x.2)
   | none => (atP p s).bind fun x => p (.s x.1) x.2
def exP (s : Bs) : Option (Nd × Bs) := (p .u s).bind fun x => match cutOp x.2 with
 | some o => (p .u o.2).map fun y => (nd 32 o.1 0 [x.1, y.1], y.2)
 | none => some x
def sfP (x : Nd) (s : Bs) : Option (Nd × Bs) :=
 match cut [46] s with
 | some r => p (.s (nd 28 (wdF r) 0 [x])) (wrF r)
 | none => match cut [91] s with
  | some r => (p .e r).bind fun y => (cut [93] y.2).bind fun r => p (.s (nd 29 [] 0 [x, y.1])) r
  | none => match cut [40] s with
   | some r => (p (.a []) r).bind fun l => p (.s (nd 30 [] 0 (x :: l.1.kids))) l.2
   | none => some (x, s)
def arP (l : List Nd) (s : Bs) : Option (Nd × Bs) :=
 match cut [41] s with
 | some r => some (nd 0 [] 0 l, r)
 | none => (p .e s).bind fun x => match cut [44, 32] x.2 with
  | some r => p (.a (l ++ [x.1])) r
  | none => (cut [41] x.2).map fun r => (nd 0 [] 0 (l ++ [x.1]), r)
def tabsP (s : Bs) : Bs := s.dropWhile fun c => decide (c = 9)
def stopB (s : Bs) : Bool := decide (hd s = 125) || anyS [[99, 97, 115, 101], [100, 101, 102, 97, 117, 108, 116]] (wdF s)
def lnP (l : List Nd) (s : Bs) : Option (Nd × Bs) :=
 bif stopB (tabsP s) then some (nd 10 [] 0 l, tabsP s)
 else (p .t (tabsP s)).bind fun x => (cut [10] x.2).bind fun r => p (.l (l ++ [x.1])) r
def blP' (s : Bs) : Option (Nd × Bs) := (p (.l []) s).bind fun x => (cut [125] x.2).map fun r => (x.1, r)
def brP (s : Bs) : Option (Nd × Bs) := (cut [123, 10] s).bind fun r => p .b r
def ifP (s : Bs) : Option (Nd × Bs) := (p .e s).bind fun x => (cut [32] x.2).bind fun r => (brP p r).bind fun y =>
 match cut [32, 101, 108, 115, 101, 32, 105, 102, 32] y.2 with
 | some r => (p .i r).map fun z => (nd 18 [] 0 [x.1, y.1, z.1], z.2)
 | none => match cut [32, 101, 108, 115, 101, 32] y.2 with
  | some r => (brP p r).map fun z => (nd 18 [] 0 [x.1, y.1, z.1], z.2)
  | none => some (nd 18 [] 0 [x.1, y.1, nd 9 [] 0 []], y.2)
def csP (l : List Nd) (s : Bs) : Option (Nd × Bs) :=
 match cut [125] (tabsP s) with
 | some r => some (nd 22 [] 0 l, r)
 | none => match cut [100, 101, 102, 97, 117, 108, 116, 58, 10] (tabsP s) with
  | some r => (p (.l []) r).bind fun b => p (.c (l ++ [nd 23 [] 0 [nd 9 [] 0 [], b.1]])) b.2
  | none => (cut [99, 97, 115, 101, 32] (tabsP s)).bind fun r => (p .t r).bind fun x => (cut [58, 10] x.2).bind fun r => (p (.l []) r).bind fun b => p (.c (l ++ [nd 23 [] 0 [x.1, b.1]])) b.2
def oneP (k : Int) (s : Bs) : Option (Nd × Bs) := (cut [40] s).bind fun r => (p .e r).bind fun x => (cut [41] x.2).map fun r => (nd k [] 0 [x.1], r)
def spP (k : Int) (s : Bs) : Option (Nd × Bs) := (cut [32] s).bind fun r => (p .e r).map fun x => (nd k [] 0 [x.1], x.2)
def varP (s : Bs) : Option (Nd × Bs) := (cut [32] s).bind fun r => (cut [32] (wrF r)).bind fun r1 => (tyP r1).bind fun y =>
 match cut [32, 61, 32] y.2 with
 | some r2 => (p .e r2).map fun z => (nd 6 (wdF r) 0 [y.1, z.1], z.2)
 | none => some (nd 6 (wdF r) 0 [y.1, nd 9 [] 0 []], y.2)
def simP (s : Bs) : Option (Nd × Bs) := (p .e s).bind fun x =>
 match cut [32, 58, 61, 32] x.2 with
 | some r => (p .e r).map fun y => (nd 11 x.1.text 0 [y.1], y.2)
 | none => match cut [32, 61, 32] x.2 with
  | some r => (p .e r).map fun y => (nd 12 [] 0 [x.1, y.1], y.2)
  | none => match cut [32, 60, 45, 32] x.2 with
   | some r => (p .e r).map fun y => (nd 16 [] 0 [x.1, y.1], y.2)
   | none => some (nd 13 [] 0 [x.1], x.2)
def stP (s : Bs) : Option (Nd × Bs) :=
 match cut [123, 10] s with
 | some r => p .b r
 | none =>
  bif decide (wdF s = [118, 97, 114]) then varP p (wrF s)
  else bif decide (wdF s = [103, 111]) then spP p 14 (wrF s)
  else bif decide (wdF s = [100, 101, 102, 101, 114]) then spP p 15 (wrF s)
  else bif decide (wdF s = [99, 108, 111, 115, 101]) then oneP p 17 (wrF s)
  else bif decide (wdF s = [112, 114, 105, 110, 116]) then oneP p 21 (wrF s)
  else bif decide (wdF s = [105, 102]) then (cut [32] (wrF s)).bind fun r => p .i r
  else bif decide (wdF s = [115, 101, 108, 101, 99, 116]) then (cut [32, 123, 10] (wrF s)).bind fun r => p (.c []) r
  else bif decide (wdF s = [114, 101, 116, 117, 114, 110]) then match cut [32] (wrF s) with
   | some r => (p .e r).map fun x => (nd 20 [] 0 [x.1], x.2)
   | none => some (nd 20 [] 0 [], wrF s)
  else bif decide (wdF s = [102, 111, 114]) then match cut [32, 123, 10] (wrF s) with
   | some r => (p .b r).map fun x => (nd 19 [] 0 [nd 9 [] 0 [], x.1], x.2)
   | none => (cut [32] (wrF s)).bind fun r => (p .e r).bind fun x => (cut [32] x.2).bind fun r => (brP p r).map fun y => (nd 19 [] 0 [x.1, y.1], y.2)
  else simP p s
def stepP : Md → Bs → Option (Nd × Bs)
 | .e, s => exP p s
 | .u, s => unP p s
 | .s x, s => sfP p x s
 | .a l, s => arP p l s
 | .b, s => blP' p s
 | .l l, s => lnP p l s
 | .t, s => stP p s
 | .i, s => ifP p s
 | .c l, s => csP p l s
end
def pG : Nat → Md → Bs → Option (Nd × Bs)
 | 0 => fun _ _ => none
 | f + 1 => stepP (pG f)
theorem pG_e (f : Nat) (s : Bs) : pG (f + 1) .e s = exP (pG f) s := rfl
theorem pG_u (f : Nat) (s : Bs) : pG (f + 1) .u s = unP (pG f) s := rfl
theorem pG_s (f : Nat) (x : Nd) (s : Bs) : pG (f + 1) (.s x) s = sfP (pG f) x s := rfl
theorem pG_a (f : Nat) (l : List Nd) (s : Bs) : pG (f + 1) (.a l) s = arP (pG f) l s := rfl
theorem pG_b (f : Nat) (s : Bs) : pG (f + 1) .b s = blP' (pG f) s := rfl
theorem pG_l (f : Nat) (l : List Nd) (s : Bs) : pG (f + 1) (.l l) s = lnP (pG f) l s := rfl
theorem pG_t (f : Nat) (s : Bs) : pG (f + 1) .t s = stP (pG f) s := rfl
theorem pG_i (f : Nat) (s : Bs) : pG (f + 1) .i s = ifP (pG f) s := rfl
theorem pG_c (f : Nat) (l : List Nd) (s : Bs) : pG (f + 1) (.c l) s = csP (pG f) l s := rfl
end Go.Rk
namespace Go.Rk
open Go Go.RowKit
set_option linter.unusedVariables false
section
variable {t : Nd} {x : Nat → Tx} {l : List Tx} {k : Nat}
theorem Yrc (h : t.kind = 24) : exX t x l k = digL t.num.toNat := by unfold exX; rw [h]; rfl
theorem Vwb (h : t.kind = 25) : exX t x l k = (bif decide (t.num = 1) then [116, 114, 117, 101] else [102, 97, 108, 115, 101]) := by unfold exX; rw [h]; rfl
theorem exX_26 (h : t.kind = 26) : exX t x l k = [110, 105, 108] := by unfold exX; rw [h]; rfl
theorem exX_27 (h : t.kind = 27) : exX t x l k = t.text := by unfold exX; rw [h]; rfl
theorem exX_34 (h : t.kind = 34) : exX t x l k = ([110, 101, 119, 40] ++ t.text) ++ [41] := by unfold exX; rw [h]; rfl
theorem exX_28 (h : t.kind = 28) : exX t x l k = (basX t x k ++ [46]) ++ t.text := by unfold exX; rw [h]; rfl
theorem exX_29 (h : t.kind = 29) : exX t x l k = ((basX t x k ++ [91]) ++ (x 1).ex k) ++ [93] := by unfold exX; rw [h]; rfl
theorem exX_30 (h : t.kind = 30) : exX t x l k = ((basX t x k ++ [40]) ++ joinX ((l.drop 1).map fun y => y.ex k)) ++ [41] := by unfold exX; rw [h]; rfl
theorem exX_31 (h : t.kind = 31) : exX t x l k = t.text ++ oprX t x 0 k := by unfold exX; rw [h]; rfl
theorem exX_33 (h : t.kind = 33) : exX t x l k = [60, 45] ++ oprX t x 0 k := by unfold exX; rw [h]; rfl
theorem exX_32 (h : t.kind = 32) : exX t x l k = (((oprX t x 0 k ++ [32]) ++ t.text) ++ [32]) ++ oprX t x 1 k := by unfold exX; rw [h]; rfl
theorem exX_35 (h : t.kind = 35) : exX t x l k = ([109, 97, 107, 101, 40, 91, 93, 105, 110, 116, 44, 32] ++ (x 0).ex k) ++ [41] := by unfold exX; rw [h]; rfl
theorem exX_36 (h : t.kind = 36) : exX t x l k = ([109, 97, 107, 101, 40, 99, 104, 97, 110, 32, 105, 110, 116, 44, 32] ++ (x 0).ex k) ++ [41] := by unfold exX; rw [h]; rfl
theorem exX_37 (h : t.kind = 37) : exX t x l k = ([108, 101, 110, 40] ++ (x 0).ex k) ++ [41] := by unfold exX; rw [h]; rfl
theorem exX_38 (h : t.kind = 38) : exX t x l k = [102, 117, 110, 99, 40, 41, 32] ++ blkX (x 0) k := by unfold exX; rw [h]; rfl
theorem stX_6 (h : t.kind = 6) : stX t x l k = varX t x k := by unfold stX; rw [h]; rfl
theorem stX_10 (h : t.kind = 10) : stX t x l k = (([123, 10] ++ l.flatMap fun y => (tabsL (k + 1) ++ y.st (k + 1)) ++ [10]) ++ tabsL k) ++ [125] := by unfold stX; rw [h]; rfl
theorem stX_11 (h : t.kind = 11) : stX t x l k = (t.text ++ [32, 58, 61, 32]) ++ (x 0).ex k := by unfold stX; rw [h]; rfl
theorem stX_12 (h : t.kind = 12) : stX t x l k = ((x 0).ex k ++ [32, 61, 32]) ++ (x 1).ex k := by unfold stX; rw [h]; rfl
theorem stX_13 (h : t.kind = 13) : stX t x l k = (x 0).ex k := by unfold stX; rw [h]; rfl
theorem stX_14 (h : t.kind = 14) : stX t x l k = [103, 111, 32] ++ (x 0).ex k := by unfold stX; rw [h]; rfl
theorem stX_15 (h : t.kind = 15) : stX t x l k = [100, 101, 102, 101, 114, 32] ++ (x 0).ex k := by unfold stX; rw [h]; rfl
theorem stX_16 (h : t.kind = 16) : stX t x l k = ((x 0).ex k ++ [32, 60, 45, 32]) ++ (x 1).ex k := by unfold stX; rw [h]; rfl
theorem stX_17 (h : t.kind = 17) : stX t x l k = ([99, 108, 111, 115, 101, 40] ++ (x 0).ex k) ++ [41] := by unfold stX; rw [h]; rfl
theorem stX_21 (h : t.kind = 21) : stX t x l k = ([112, 114, 105, 110, 116, 40] ++ (x 0).ex k) ++ [41] := by unfold stX; rw [h]; rfl
theorem stX_18 (h : t.kind = 18) : stX t x l k = ifX t x k := by unfold stX; rw [h]; rfl
theorem stX_22 (h : t.kind = 22) : stX t x l k = (([115, 101, 108, 101, 99, 116, 32, 123, 10] ++ l.flatMap fun y => y.cs k) ++ tabsL k) ++ [125] := by unfold stX; rw [h]; rfl
theorem stX_20 (h : t.kind = 20) : stX t x l k = (bif lenK t 0 then [114, 101, 116, 117, 114, 110] else [114, 101, 116, 117, 114, 110, 32] ++ (x 0).ex k) := by unfold stX; rw [h]; rfl
theorem stX_19 (h : t.kind = 19) : stX t x l k = (bif decide ((kidAt t 0).kind = 9) then [102, 111, 114, 32] ++ blkX (x 1) k else (([102, 111, 114, 32] ++ (x 0).ex k) ++ [32]) ++ blkX (x 1) k) := by
 unfold stX; rw [h]
 cases decide ((kidAt t 0).kind = 9) <;> rfl
end
def txX (t : Nd) (i : Nat) : Tx := (t.kids.map txT).getD i tx0
theorem tx_ex (t : Nd) (k : Nat) : (txT t).ex k = exX t (txX t) (t.kids.map txT) k := by rw [Wm]; rfl
theorem Zqa (t : Nd) (k : Nat) : (txT t).st k = stX t (txX t) (t.kids.map txT) k := by rw [Wm]; rfl
theorem tx_cs (t : Nd) (k : Nat) : (txT t).cs k = csX t (txX t) k := by rw [Wm]; rfl
theorem Xm {t : Nd} {i : Nat} (h : i < t.kids.length) : txX t i = txT (kidAt t i) := Ync h
theorem Ysc {t : Nd} (h : exprB t = true) : t.kind = 24 ∨ t.kind = 25 ∨ t.kind = 26 ∨ t.kind = 27 ∨ t.kind = 34 ∨ t.kind = 28 ∨ t.kind = 29 ∨ t.kind = 30 ∨ t.kind = 31 ∨ t.kind = 33 ∨ t.kind = 32 ∨ t.kind = 35 ∨ t.kind = 36 ∨ t.kind = 37 ∨ t.kind = 38 := by
 have := (Jma _ _).1 (Bool.and_eq_true_iff.1 h).1
 simp only [List.mem_cons, List.not_mem_nil, or_false] at this
 omega
theorem Vxb {t : Nd} (h : stmtB t = true) : t.kind = 6 ∨ t.kind = 10 ∨ t.kind = 11 ∨ t.kind = 12 ∨ t.kind = 13 ∨ t.kind = 14 ∨ t.kind = 15 ∨ t.kind = 16 ∨ t.kind = 17 ∨ t.kind = 21 ∨ t.kind = 18 ∨ t.kind = 22 ∨ t.kind = 20 ∨ t.kind = 19 := by
 have := (Jma _ _).1 (Bool.and_eq_true_iff.1 h).1
 simp only [List.mem_cons, List.not_mem_nil, or_false] at this
 omega
theorem Yfa {t : Nd} (h : permF t = true) : textB' t = true := by
 rw [Vq, locB, Bool.and_eq_true, Bool.and_eq_true] at h; exact h.1.1
theorem Qp {t : Nd} (h : permF t = true) (hk : anyK [2, 3, 4, 6, 11, 28, 27, 34, 8] t.kind = true) : nameB t.text = true := by
 have := Yfa h
 unfold textB' at this; rwa [hk, cond_true] at this
theorem plain_of {t : Nd} (h : permF t = true) (hk : anyK [2, 3, 4, 6, 11, 28, 27, 34, 8] t.kind = false) (h1 : t.kind ≠ 31) (h2 : t.kind ≠ 32) (h3 : t.kind ≠ 7) : t.text = [] := by
 have := Yfa h
 unfold textB' at this
 rw [hk, cond_false, decide_eq_false h1, cond_false, decide_eq_false h2, cond_false, decide_eq_false h3, cond_false] at this
 exact of_decide_eq_true this
theorem Qh {s : Bs} (h : nameB s = true) : s.all alB = true ∧ (∃ a l, s = a :: l ∧ letterB a.toNat = true) ∧ inB kws s = false := by
 unfold nameB at h
 simp only [Bool.and_eq_true, Bool.not_eq_true', Bool.or_eq_false_iff, Bool.not_eq_false', decide_eq_false_iff_not] at h
 obtain ⟨⟨⟨⟨h1, _⟩, h2⟩, h3⟩, h4⟩ := h
 cases s with
 | nil => exact absurd rfl h1
 | cons a l =>
  have h2 : letterB a.toNat = true := h2
  refine ⟨?_, ⟨a, l, rfl, h2⟩, h3⟩
  rw [List.all_cons, Bool.and_eq_true]
  exact ⟨by unfold alB; rw [h2]; rfl, h4⟩
def stW : List Bs := [[118, 97, 114], [103, 111], [100, 101, 102, 101, 114], [99, 108, 111, 115, 101], [112, 114, 105, 110, 116], [105, 102], [115, 101, 108, 101, 99, 116], [114, 101, 116, 117, 114, 110], [102, 111, 114], [99, 97, 115, 101], [100, 101, 102, 97, 117, 108, 116]]
def opn (c : UInt8) : Bool := alB c || (decide (c = 40) || (decide (c = 45) || (decide (c = 33) || decide (c = 60))))
structure Hx (s : Bs) : Prop where
 o : opn (hd s) = true
 w : anyS stW (wdF s) = false
theorem hx_sym {a : UInt8} {s : Bs} (h : alB a = false) (ho : opn a = true) : Hx (a :: s) := ⟨ho, by unfold wdF; rw [List.takeWhile_cons, h]; rfl⟩
theorem Ytc {n r : Bs} (h : n.all alB = true) (hn : n ≠ []) : alB (hd (n ++ r)) = true := by
 cases n with
 | nil => exact absurd rfl hn
 | cons a l => exact (Bool.and_eq_true_iff.1 (List.all_cons ▸ h)).1
theorem Yha {n r : Bs} (h : n.all alB = true) (hn : n ≠ []) (hr : nb r = true) (hw : anyS stW n = false) : Hx (n ++ r) :=
 ⟨by unfold opn; rw [Ytc h hn]; rfl, by rw [(Vt h hr).1]; exact hw⟩
theorem kw_stW {n : Bs} (h : inB kws n = false) : anyS stW n = false := by
 rw [← Bool.not_eq_true] at h ⊢
 intro e
 apply h
 have e := (Ypa _ _).1 e
 simp only [stW, List.mem_cons, List.not_mem_nil, or_false] at e
 rcases e with e | e | e | e | e | e | e | e | e | e | e <;> subst e <;> decide
theorem hx_name {n r : Bs} (h : nameB n = true) (hr : nb r = true) : Hx (n ++ r) := by
 obtain ⟨h1, ⟨a, l, h2, _⟩, h3⟩ := Qh h
 exact Yha h1 (by rw [h2]; simp) hr (kw_stW h3)
theorem Xha (f : Nat) : ∀ n, (digF f n).all dgB = true ∧ (f ≠ 0 → digF f n ≠ []) := by
 induction f with
 | zero => intro n; exact ⟨rfl, fun h => absurd rfl h⟩
 | succ f ih =>
  intro n
  have hd : ∀ m : Nat, m < 10 → dgB (UInt8.ofNat (48 + m)) = true := by decide
  rw [digF]
  cases h : Nat.blt n 10
  ·simp only [cond_false]
   refine ⟨?_, fun _ => by simp⟩
   rw [List.all_append, (ih (n / 10)).1, List.all_cons, hd _ (Nat.mod_lt _ (by decide))]; rfl
  ·simp only [cond_true]
   exact ⟨by rw [List.all_cons, hd _ (Nat.blt_eq.mp h)]; rfl, fun _ => by simp⟩
theorem dg_al {c : UInt8} (h : dgB c = true) : alB c = true := by unfold alB; unfold dgB at h; rw [h, Bool.or_true]
theorem digL_al (n : Nat) : (digL n).all alB = true := by
 rw [List.all_eq_true]
 exact fun c hc => dg_al (List.all_eq_true.1 (Xha 20 n).1 c hc)
theorem digL_hd (n : Nat) (r : Bs) : dgB (hd (digL n ++ r)) = true := by
 have h1 := (Xha 20 n).1
 have h2 := (Xha 20 n).2 (by decide)
 unfold digL
 cases h : digF 20 n with
 | nil => exact absurd h h2
 | cons a l => rw [h, List.all_cons, Bool.and_eq_true] at h1; exact h1.1
theorem hx_dig (n : Nat) {r : Bs} (hr : nb r = true) : Hx (digL n ++ r) := by
 refine Yha (digL_al n) ((Xha 20 n).2 (by decide)) hr ?_
 rw [← Bool.not_eq_true]
 intro e
 have e := (Ypa _ _).1 e
 have h := digL_hd n []
 rw [List.append_nil] at h
 simp only [stW, List.mem_cons, List.not_mem_nil, or_false] at e
 rcases e with e | e | e | e | e | e | e | e | e | e | e <;> rw [e] at h <;> revert h <;> decide
theorem hx_par {q : Bool} {s r : Bs} (h : q = false → Hx (s ++ r)) : Hx (parX q s ++ r) := by
 cases q
 ·exact h rfl
 ·exact hx_sym (by decide) (by decide)
theorem Jva : ∀ (t : Nd) (k : Nat) (r : Bs), exprB t = true → nb r = true → Hx ((txT t).ex k ++ r) := by
 refine Nd.ind fun t ih k r hx hr => ?_
 have hp : permF t = true := (Bool.and_eq_true_iff.1 hx).2
 have ihk : ∀ i, i < t.kids.length → exprB (kidAt t i) = true → ∀ r, nb r = true → Hx ((txX t i).ex k ++ r) := fun i h he r hr => by
  rw [Xm h]; rw [Xu h] at he ⊢; exact ih _ (List.getElem_mem h) k r he hr
 have ib : 0 < t.kids.length → exprB (kidAt t 0) = true → ∀ r, nb r = true → Hx (basX t (txX t) k ++ r) := fun h he r hr => hx_par fun _ => ihk 0 h he r hr
 rw [tx_ex]
 rcases Ysc hx with h | h | h | h | h | h | h | h | h | h | h | h | h | h | h
 ·rw [Yrc h]; exact hx_dig _ hr
 ·rw [Vwb h]
  cases decide (t.num = 1)
  ·exact Yha (by decide) (by decide) hr (by decide)
  ·exact Yha (by decide) (by decide) hr (by decide)
 ·rw [exX_26 h]; exact Yha (by decide) (by decide) hr (by decide)
 ·rw [exX_27 h]; exact hx_name (Qp hp (by rw [h]; decide)) hr
 ·rw [exX_34 h, List.append_assoc, List.append_assoc]; exact Yha (n := [110, 101, 119]) (r := [40] ++ _) (by decide) (by decide) rfl (by decide)
 ·obtain ⟨_, hl, he⟩ := sh28 h hx
  rw [exX_28 h, List.append_assoc, List.append_assoc]; exact ib (by omega) he _ rfl
 ·obtain ⟨hl, he, _⟩ := sh29 h hx
  rw [exX_29 h, List.append_assoc, List.append_assoc, List.append_assoc]; exact ib (by omega) he _ rfl
 ·obtain ⟨hl, he⟩ := sh30 h hx
  rw [exX_30 h, List.append_assoc, List.append_assoc, List.append_assoc]; exact ib (by omega) (Vu he (by omega)) _ rfl
 ·rw [exX_31 h, List.append_assoc]
  have ht := Yfa hp
  unfold textB' at ht; rw [h] at ht
  have ht : (decide (t.text = [45]) || decide (t.text = [33])) = true := ht
  simp only [Bool.or_eq_true, decide_eq_true_eq] at ht
  rcases ht with e | e <;> rw [e] <;> exact hx_sym (by decide) (by decide)
 ·rw [exX_33 h]; exact hx_sym (by decide) (by decide)
 ·obtain ⟨_, hl, he, _⟩ := sh32 h hx
  rw [exX_32 h, List.append_assoc, List.append_assoc, List.append_assoc, List.append_assoc]
  exact hx_par fun _ => ihk 0 (by omega) he _ rfl
 ·rw [exX_35 h, List.append_assoc, List.append_assoc]; exact Yha (n := [109, 97, 107, 101]) (r := [40, 91, 93, 105, 110, 116, 44, 32] ++ _) (by decide) (by decide) rfl (by decide)
 ·rw [exX_36 h, List.append_assoc, List.append_assoc]; exact Yha (n := [109, 97, 107, 101]) (r := [40, 99, 104, 97, 110, 32, 105, 110, 116, 44, 32] ++ _) (by decide) (by decide) rfl (by decide)
 ·rw [exX_37 h, List.append_assoc, List.append_assoc]; exact Yha (n := [108, 101, 110]) (r := [40] ++ _) (by decide) (by decide) rfl (by decide)
 ·rw [exX_38 h, List.append_assoc]; exact Yha (n := [102, 117, 110, 99]) (r := [40, 41, 32] ++ _) (by decide) (by decide) rfl (by decide)
end Go.Rk
namespace Go.Rk
open Go Go.RowKit
set_option linter.unusedVariables false
theorem strip_nd {t : Nd} (h : Vj t = false) : stripT t = nd t.kind t.text 0 (t.kids.map stripT) := by rw [Um, numS, h]; rfl
theorem counts_not {t : Nd} (h1 : t.kind ≠ 24) (h2 : t.kind ≠ 25) : Vj t = false := by rw [Vj, decide_eq_false h1, decide_eq_false h2]; rfl
theorem kids1 {t : Nd} (h : t.kids.length = 1) : t.kids = [kidAt t 0] := by
 match hk : t.kids with
 | [a] => rw [kidAt, hk]; rfl
 | [] => rw [hk] at h; cases h
 | _ :: _ :: _ => rw [hk] at h; simp at h
theorem kids2 {t : Nd} (h : t.kids.length = 2) : t.kids = [kidAt t 0, kidAt t 1] := by
 match hk : t.kids with
 | [a, b] => rw [kidAt, kidAt, hk]; rfl
 | [] => rw [hk] at h; cases h
 | [_] => rw [hk] at h; cases h
 | _ :: _ :: _ :: _ => rw [hk] at h; simp at h
theorem kids3 {t : Nd} (h : t.kids.length = 3) : t.kids = [kidAt t 0, kidAt t 1, kidAt t 2] := by
 match hk : t.kids with
 | [a, b, c] => rw [kidAt, kidAt, kidAt, hk]; rfl
 | [] => rw [hk] at h; cases h
 | [_] => rw [hk] at h; cases h
 | [_, _] => rw [hk] at h; cases h
 | _ :: _ :: _ :: _ :: _ => rw [hk] at h; simp at h
theorem st1 {t : Nd} (h : t.kids.length = 1) : t.kids.map stripT = [stripT (kidAt t 0)] := by rw [kids1 h]; rfl
theorem st2 {t : Nd} (h : t.kids.length = 2) : t.kids.map stripT = [stripT (kidAt t 0), stripT (kidAt t 1)] := by rw [kids2 h]; rfl
theorem st3 {t : Nd} (h : t.kids.length = 3) : t.kids.map stripT = [stripT (kidAt t 0), stripT (kidAt t 1), stripT (kidAt t 2)] := by rw [kids3 h]; rfl
theorem cn1 {t : Nd} (h : t.kids.length = 1) : count t = 1 + count (kidAt t 0) := by rw [Ww, kids1 h]; simp
theorem cn2 {t : Nd} (h : t.kids.length = 2) : count t = 1 + count (kidAt t 0) + count (kidAt t 1) := by rw [Ww, kids2 h]; simp; omega
theorem cn3 {t : Nd} (h : t.kids.length = 3) : count t = 1 + count (kidAt t 0) + count (kidAt t 1) + count (kidAt t 2) := by rw [Ww, kids3 h]; simp; omega
theorem Jc {c : UInt8} {p s : Bs} (h : hd s ≠ c) : cut (c :: p) s = none := by
 cases s with
 | nil => rfl
 | cons a s => rw [cut, decide_eq_false (fun e => h e.symm), cond_false]
theorem opn_ne {s : Bs} (h : opn (hd s) = true) {c : UInt8} (hc : opn c = false) : hd s ≠ c := fun e => by rw [e, hc] at h; cases h
theorem Hx.ne {s : Bs} (h : Hx s) {c : UInt8} (hc : opn c = false) : hd s ≠ c := opn_ne h.o hc
theorem Wob {s : Bs} (h : alB (hd s) = true) {c : UInt8} (hc : alB c = false) : hd s ≠ c := fun e => by rw [e, hc] at h; cases h
def folB (r : Bs) : Bool := nb r && (decide (hd r ≠ 46) && (decide (hd r ≠ 91) && decide (hd r ≠ 40)))
theorem folB_iff {r : Bs} : folB r = true ↔ nb r = true ∧ hd r ≠ 46 ∧ hd r ≠ 91 ∧ hd r ≠ 40 := by
 unfold folB; simp only [Bool.and_eq_true, decide_eq_true_eq]
theorem sf_stop {x : Nd} {r : Bs} {f : Nat} (h : folB r = true) (hf : 1 ≤ f) : pG f (.s x) r = some (x, r) := by
 obtain ⟨h0, h1, h2, h3⟩ := folB_iff.1 h
 obtain ⟨f, rfl⟩ : ∃ g, f = g + 1 := ⟨f - 1, by omega⟩
 rw [pG_s]
 rw [sfP, Jc h1, Jc h2, Jc h3]
structure Rx (t : Nd) : Prop where
 e : exprB t = true → ∀ k r f, folB r = true → cutOp r = none → 10 * count t ≤ f + 2 → pG f .e ((txT t).ex k ++ r) = some (stripT t, r)
 u : exprB t = true → t.kind ≠ 32 → ∀ k r f, folB r = true → 10 * count t ≤ f + 3 → pG f .u ((txT t).ex k ++ r) = some (stripT t, r)
 s : exprB t = true → t.kind ≠ 31 → t.kind ≠ 32 → t.kind ≠ 33 → ∀ k r f, nb r = true → 10 * count t ≤ f + 4 → ∃ f', f + 4 ≤ f' + 10 * count t ∧ pG f .u ((txT t).ex k ++ r) = pG f' (.s (stripT t)) r
 b : blockB t = true → ∀ k r f, 10 * count t ≤ f + 2 → pG f .b (((txT t).ls (k + 1) ++ tabsL k) ++ ([125] ++ r)) = some (stripT t, r)
section
variable {p : Md → Bs → Option (Nd × Bs)}
theorem un_at {s : Bs} (h1 : hd s ≠ 45) (h2 : hd s ≠ 33) (h3 : hd s ≠ 60) : unP p s = (atP p s).bind fun x => p (.s x.1) x.2 := by
 rw [unP, Jc h1, Jc h2, Jc h3]
theorem un_par (s : Bs) : unP p ([40] ++ s) = (atP p ([40] ++ s)).bind fun x => p (.s x.1) x.2 := un_at (show (40 : UInt8) ≠ 45 by decide) (show (40 : UInt8) ≠ 33 by decide) (show (40 : UInt8) ≠ 60 by decide)
theorem Yuc {n m : Bs} (h : inB kws n = false) (hm : inB kws m = true) : n ≠ m := fun e => by rw [e, hm] at h; cases h
theorem at_name {n r : Bs} (h : nameB n = true) (hr : nb r = true) : atP p (n ++ r) = some (nd 27 n 0 [], r) := by
 obtain ⟨h1, ⟨a, l, e, ha⟩, h3⟩ := Qh h
 obtain ⟨w1, w2⟩ := Vt h1 hr
 have hh : alB (hd (n ++ r)) = true := Ytc h1 (by rw [e]; simp)
 have hg : dgB (hd (n ++ r)) = false := by
  rw [e]
  show digitB a.toNat = false
  unfold letterB at ha; unfold digitB
  simp only [Bool.or_eq_true, Bool.and_eq_true, decide_eq_true_eq, Bool.and_eq_false_iff, decide_eq_false_iff_not] at ha ⊢
  omega
 rw [atP, Jc (Wob hh (by decide))]
 dsimp only
 rw [hg, cond_false, w1, w2, decide_eq_false (Yuc h3 (by decide)), cond_false, decide_eq_false (Yuc h3 (by decide)), cond_false, decide_eq_false (Yuc h3 (by decide)), cond_false, decide_eq_false (Yuc h3 (by decide)), cond_false, decide_eq_false (Yuc h3 (by decide)), cond_false, decide_eq_false (Yuc h3 (by decide)), cond_false, decide_eq_false (Yuc h3 (by decide)), cond_false]
end
theorem dg_run {n r : Bs} (hn : n.all dgB = true) (hr : nb r = true) : (n ++ r).takeWhile dgB = n ∧ (n ++ r).dropWhile dgB = r := by
 induction n with
 | nil =>
  cases r with
  | nil => exact ⟨rfl, rfl⟩
  | cons a r =>
   have h : alB a = false := by simpa [nb, hd] using hr
   have h : dgB a = false := by
    cases e : dgB a
    ·rfl
    ·rw [dg_al e] at h; cases h
   simp [h]
 | cons a n ih =>
  simp only [List.all_cons, Bool.and_eq_true] at hn
  obtain ⟨h1, h2⟩ := ih hn.2
  simp [hn.1, h1, h2]
theorem valN_app (a : Nat) (l m : Bs) : valN a (l ++ m) = valN (valN a l) m := by unfold valN; rw [List.foldl_append]
theorem valN_dig : ∀ (f n : Nat), n < 10 ^ f → valN 0 (digF f n) = n := by
 intro f
 induction f with
 | zero =>
  intro n h
  have : n = 0 := by simpa using h
  subst this; rfl
 | succ f ih =>
  intro n h
  have hv : ∀ a m : Nat, m < 10 → valN a [UInt8.ofNat (48 + m)] = a * 10 + m := by
   intro a m hm
   show a * 10 + ((UInt8.ofNat (48 + m)).toNat - 48) = _
   rw [show (UInt8.ofNat (48 + m)).toNat = 48 + m by rw [UInt8.toNat_ofNat']; omega]; omega
  rw [digF]
  cases h1 : Nat.blt n 10
  ·simp only [cond_false]
   rw [valN_app, ih (n / 10) (by rw [Nat.pow_succ] at h; omega), hv _ _ (Nat.mod_lt _ (by decide))]; omega
  ·simp only [cond_true]
   rw [hv _ _ (Nat.blt_eq.mp h1)]; omega
theorem valN_digL {n : Nat} (h : n ≤ 9223372036854775807) : valN 0 (digL n) = n := valN_dig 20 n (Nat.lt_of_le_of_lt h (by decide))
theorem rd_par {t : Nd} (h : Rx t) (hx : exprB t = true) (k : Nat) (r : Bs) (f : Nat) (hf : 10 * count t ≤ f + 1) : pG f .u ([40] ++ ((txT t).ex k ++ ([41] ++ r))) = pG (f - 1) (.s (stripT t)) r := by
 obtain ⟨f, rfl⟩ : ∃ g, f = g + 1 := ⟨f - 1, by have := Wg t; omega⟩
 rw [show f + 1 - 1 = f from rfl]
 rw [pG_u]
 rw [un_par, atP, Xg]
 dsimp only
 rw [h.e hx k ([41] ++ r) f rfl rfl (by omega), Option.bind_some]
 dsimp only
 rw [Xg]; rfl
theorem rd_base {t : Nd} (h : Rx t) (hx : exprB t = true) {q : Bool} (hq : q = ((decide (t.kind = 32) || decide (t.kind = 31)) || decide (t.kind = 33))) (k : Nat) (r : Bs) (f : Nat) (hr : nb r = true) (hf : 10 * count t ≤ f + 1) : ∃ f', f + 4 ≤ f' + 10 * count t ∧ pG f .u (parX q ((txT t).ex k) ++ r) = pG f' (.s (stripT t)) r := by
 cases q
 ·have hq := hq.symm
  simp only [Bool.or_eq_false_iff, decide_eq_false_iff_not] at hq
  exact h.s hx hq.1.2 hq.1.1 hq.2 k r f hr (by omega)
 ·refine ⟨f - 1, by have := Wg t; omega, ?_⟩
  rw [show parX true ((txT t).ex k) ++ r = [40] ++ ((txT t).ex k ++ ([41] ++ r)) by simp [parX]]
  exact rd_par h hx k r f hf
theorem rd_opr {t : Nd} (h : Rx t) (hx : exprB t = true) {q : Bool} (hq : q = decide (t.kind = 32)) (k : Nat) (r : Bs) (f : Nat) (hr : folB r = true) (hf : 10 * count t ≤ f + 1) : pG f .u (parX q ((txT t).ex k) ++ r) = some (stripT t, r) := by
 cases q
 ·exact h.u hx (of_decide_eq_false hq.symm) k r f hr (by omega)
 ·rw [show parX true ((txT t).ex k) ++ r = [40] ++ ((txT t).ex k ++ ([41] ++ r)) by simp [parX]]
  rw [rd_par h hx k r f hf]
  exact sf_stop hr (by have := Wg t; omega)
theorem rd_args (k : Nat) (r : Bs) : ∀ (l : List Nd) (acc : List Nd) (f : Nat), l ≠ [] → (∀ y ∈ l, Rx y ∧ exprB y = true) → 10 * (l.map count).sum ≤ f → pG f (.a acc) (joinX (l.map fun y => (txT y).ex k) ++ ([41] ++ r)) = some (nd 0 [] 0 (acc ++ l.map stripT), r) := by
 intro l
 induction l with
 | nil => intro _ _ h; exact absurd rfl h
 | cons y l ih =>
  intro acc f _ hl hf
  obtain ⟨hy, hx⟩ := hl y List.mem_cons_self
  simp only [List.map_cons, List.sum_cons] at hf
  have hc := Wg y
  obtain ⟨f, rfl⟩ : ∃ g, f = g + 1 := ⟨f - 1, by omega⟩
  rw [pG_a]
  cases l with
  | nil =>
   have e : joinX ([y].map fun y => (txT y).ex k) ++ ([41] ++ r) = (txT y).ex k ++ ([41] ++ r) := by simp [joinX]
   rw [e, arP, Jc ((Jva y k _ hx rfl).ne (by decide))]
   dsimp only
   rw [hy.e hx k ([41] ++ r) f rfl rfl (by omega), Option.bind_some]
   dsimp only
   rw [show cut [44, 32] ([41] ++ r) = none from rfl, Xg]; rfl
  | cons z l =>
   have e : joinX ((y :: z :: l).map fun y => (txT y).ex k) ++ ([41] ++ r) = (txT y).ex k ++ ([44, 32] ++ (joinX ((z :: l).map fun y => (txT y).ex k) ++ ([41] ++ r))) := by simp [joinX]
   rw [e, arP, Jc ((Jva y k _ hx rfl).ne (by decide))]
   dsimp only
   rw [hy.e hx k ([44, 32] ++ _) f rfl rfl (by omega), Option.bind_some]
   dsimp only
   rw [Xg]
   dsimp only
   rw [ih (acc ++ [stripT y]) f (by simp) (fun u hu => hl u (List.mem_cons_of_mem _ hu)) (by simp only [List.map_cons, List.sum_cons] at hf ⊢; omega)]
   simp
end Go.Rk
