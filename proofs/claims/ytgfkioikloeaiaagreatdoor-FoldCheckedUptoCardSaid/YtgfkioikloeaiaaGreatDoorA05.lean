/- Merged texts of one road: CkL, CkO, CkP, CkQ, CkJ, CkR, CkS. Conditions: each text's own. -/
import Derived.Test.YtgfkioikloeaiaaGreatDoorA04
set_option linter.unusedSimpArgs false
set_option linter.unusedVariables false
namespace Go.Rk
open Go.Proofs
open Go Go.RowKit
set_option maxHeartbeats 2000000
theorem Jsf (l : List Vr) : ∀ u ∈ l.flatMap vrCells, u.oneCell' = true := fun u hu => by
 obtain ⟨v, _, hv⟩ := List.mem_flatMap.1 hu
 exact List.all_eq_true.1 (show (vrCells v).all (·.oneCell') = true from rfl) u hv
theorem Jtf (l : List Nat) : ∀ u ∈ l.map (fun (k : Nat) => Value.int .i64 (k : Int)), u.oneCell' = true := fun u hu => by
 obtain ⟨k, _, rfl⟩ := List.mem_map.1 hu; rfl
theorem Wgd {F t : Nd} (H : FSh F) (HM : t.kind = 28 → CkM F t) : CkR F t := by
 intro n0 b S w v N h hk0 hb hcn
 have er : (ckT F t).rcv S = rcvR F t (ckX F t) S := by rw [Qw]; rfl
 have em : (ckT F t).mem S = memR F t (ckX F t) S := by rw [Qw]; rfl
 rw [er]
 obtain ⟨p, c, rfl, _⟩ := id hk0
 have hlt := h.lt
 have ct := Jo t
 have hvl := hb.vl
 have hnl := hb.nl
 obtain ⟨fv, sv, sn, h⟩ := h
 obtain ⟨pv, cv, rfl, hcap, hat⟩ := Wbd h.ov
 obtain ⟨an, cn, rfl, hcapn⟩ := Zxb h.on
 obtain ⟨pf, cf, rfl, _⟩ := id h.kF
 have hrv : 0 < S.vars.length → ∃ b o, pv = some ⟨b, o, none⟩ ∧ RowAt w b o (S.vars.flatMap vrCells) := fun h0 => by
  obtain ⟨g, c', hv, _, hR, _⟩ := Qqa h.ov h0
  injection hv with e1 _ _
  exact ⟨g, 0, e1, hR⟩
 have hrn : 0 < S.next.length → ∃ b o, an = some ⟨b, o, none⟩ ∧ RowAt w b o (S.next.map fun (k : Nat) => Value.int .i64 (k : Int)) := fun h0 => by
  obtain ⟨g, c', hv, _, hR, _⟩ := Qqa h.on h0
  injection hv with e1 _ _
  exact ⟨g, 0, e1, hR⟩
 have g := G.refl w
 refine Yp (m := 72) Qpa J J [(0, True, _), (1, True, _)] (Za J (Za J (Zj _))) ?_
 refine Wya fun K1 hK1 => ?_
 refine Wma [1, 1, 3] ?_
 refine Wq J (Zk J) J ?_
 intro b3 w3 N3
 have l3 := N3.ge g
 have g := g.trans N3.g
 have B3 := N3.blk
 refine Yh J Zm J ?_
 intro b4 w4 N4
 have x4_3 := N4.ne B3
 have l4 := N4.ge g
 have g := g.trans N4.g
 replace B3 := B3.grow (N4.g)
 have B4 := N4.blk
 refine Yi J (fun _ => Wy Xy) ?_
 refine Wh [(0, _, _), (3, _, _), (4, _, _), (5, _, _)] (Za J (Za J (Za J (Za J (Zj _))))) ?_
 refine Zb (hK1 _ _ ?_)
 refine Wya fun K2 hK2 => ?_
 refine Wya fun K3 hK3 => ?_
 refine Wma [3, 0, 3] ?_
 refine Yi J (fun _ => Zv Yd (Zk J)) ?_
 refine Qkb J (Ye Zu (Zk J) (fun _ => B3.at_ J)) ?_
 refine Yi J (fun _ => Vt (Zk J) Xy) ?_
 refine Wh [(0, _, _), (3, _, _), (4, _, _), (5, _, _), (13, _, _)] (Za J (Za J (Za J (Za J (Za J (Zj _)))))) ?_
 refine Zb (hK3 _ _ ?_)
 refine Xzc (Zk J) (fun h1 => ?_) (fun h1 => ?_)
 ·replace h1 : t.kind = 27 := of_decide_eq_true h1
  refine Wya fun K4 hK4 => ?_
  refine Wma [3, 0, 2, 3, 3, 3, 1, 2, 3] ?_
  refine Yi J (fun _ => Yl (Zk J)) ?_
  refine Qkb J (Xd Zc (Zk J) J (fun _ => B3.row)) ?_
  refine Ya J (Zo Yva Yo (Xf (Zk J) (Xf (Zk J) (Xw))) J) (Qgb H t _ _ (h.grow g).chk hb (by omega)) ?_
  rintro v17 w17 ⟨rfl, g17⟩
  refine ⟨fun _ => g17, ?_⟩
  have g := g.trans g17
  replace B3 := B3.grow (g17)
  replace B4 := B4.grow (g17)
  refine Yi J (fun _ => Yl (Zk J)) ?_
  refine Yi J (fun _ => Vf (Zk J) J) ?_
  refine Yi J (fun _ => Vf (Zk J) J) ?_
  refine Yh J Zm J ?_
  intro b6 w6 N6
  have x6_3 := N6.ne B3
  have x6_4 := N6.ne B4
  have l6 := N6.ge g
  have g := g.trans N6.g
  replace B3 := B3.grow (N6.g)
  replace B4 := B4.grow (N6.g)
  have B6 := N6.blk
  refine Yfa J Zl (Zk J) (Zk J) J J B6 J J ?_
  intro wS1 hgS1 hzS1
  clear B6
  intro B6
  replace B3 := B3.keep hgS1 (by intro h; injection h with h; first | exact x6_3 h.symm | exact x3_6 h | omega)
  replace B4 := B4.keep hgS1 (by intro h; injection h with h; first | exact x6_4 h.symm | exact x4_6 h | omega)
  have g := Zw g hgS1 (by omega)
  refine Yi J (fun _ => Wy (Zk J)) ?_
  refine Wh [(0, _, _), (3, _, _), (4, _, _), (5, _, _), (6, _, _), (7, _, _)] (Za J (Za J (Za J (Za J (Za J (Za J (Zj _))))))) ?_
  refine Zb (hK4 _ _ ?_)
  refine Wya fun K5 hK5 => ?_
  refine Ud (rowR (some b4)) [0, 3, 3, 3, 0, 3, 3, 3, 3, 3, 0, 3, 3, 1, 3] [0, 0, 2, 6, 14, 30, 62, 126, 254, 510, 1022, 2046, 4094, 255, 16383] mix (by kernel_rfl) [0, 1, 2, 3, 4, 5, 6, 7, 8, 9, 10, 11, 12, 13, 14] J ?_
  have g := gdr g
  replace B3 := B3.grow (G.drew _)
  replace B4 := B4.grow (G.drew _)
  replace B6 := B6.grow (G.drew _)
  refine Qoe (L' := [1, 2, 3, 4, 5, 6, 7, 8, 9, 10, 11, 12, 13, 14]) 0 J J J (fun w1 hx => Xd Zc (Zk J) J (fun _ => (B6.keep hx (by intro h; first | (injection h with h; omega) | cases h)).row)) ?_
  refine Jsa (L' := [2, 3, 4, 5, 6, 7, 8, 9, 10, 11, 12, 13, 14]) 1 J J J (fun _ => Yl (Zk J)) ?_
  refine Jsa (L' := [3, 4, 5, 6, 7, 8, 9, 10, 11, 12, 13, 14]) 2 J J J (fun _ => Yl (Zk J)) ?_
  refine Jm (L' := [4, 5, 6, 7, 8, 9, 10, 11, 12, 13, 14]) 3 J J J J J (fun _ => Zv Uj (Zk J)) ?_
  refine Jba (L' := [5, 6, 7, 8, 9, 10, 11, 12, 13, 14]) 4 J J J J J (fun w1 hx => Ye Zu (Zq J id) (fun _ => (B6.keep hx (by intro h; first | (injection h with h; omega) | cases h)).at_ J)) ?_
  refine Jm (L' := [6, 7, 8, 9, 10, 11, 12, 13, 14]) 5 J J J J J (fun _ => Vt (Zq J id) Xy) ?_
  refine Jsa (L' := [7, 8, 9, 10, 11, 12, 13, 14]) 6 J J J (fun _ => Zz (Zk J) (Zq J id)) ?_
  refine Jsa (L' := [8, 9, 10, 11, 12, 13, 14]) 7 J J J (fun _ => Yl (Zk J)) ?_
  refine Jm (L' := [9, 10, 11, 12, 13, 14]) 8 J J J J J (fun _ => Zv Xa (Zk J)) ?_
  refine Jm (L' := [10, 11, 12, 13, 14]) 9 J J J J J (fun _ => Zv Ws (Zq J id)) ?_
  refine Jba (L' := [11, 12, 13, 14]) 10 J J J J J (fun w1 hx => Ye Zu (Zq J id) (fun _ => (B6.keep hx (by intro h; first | (injection h with h; omega) | cases h)).at_ J)) ?_
  refine Jm (L' := [12, 13, 14]) 11 J J J J J (fun _ => Ugb (Zq J id) Xy) ?_
  refine Jsa (L' := [13, 14]) 12 J J J (fun _ => Zz (Zk J) (Zq J id)) ?_
  refine Xo 13 J J ?_
  refine Xg (L' := [14]) [0, 3, 3, 3, 0, 3, 3, 3, 3, 3, 0, 3, 3, 2, 3] J J J ?_
  refine Yfa J Zl (Zk J) (Zk J) J J B4 J J ?_
  intro wS2 hgS2 hzS2
  clear B4
  intro B4
  replace B3 := B3.keep hgS2 (by intro h; injection h with h; first | exact x4_3 h.symm | exact x3_4 h | omega)
  replace B6 := B6.keep hgS2 (by intro h; injection h with h; first | exact x4_6 h.symm | exact x6_4 h | omega)
  have g := Zw g hgS2 (by omega)
  refine Wa (hgS2) ?_
  refine Jsa (L' := []) 14 J J J (fun _ => Wy (Zk J)) ?_
  refine Uq [(0, _, _), (3, _, _), (4, _, _), (5, _, _)] (Za J (Za J (Za J (Za J (Zj _))))) ?_
  refine Up (hK5 _ _ ?_)
  refine Zr (Wb (rs := [.cell 4 26, .tmp 5]) (vs := [_, _]) J J (Yy J Zc J (by first | exact B3.row | exact B4.row | exact B6.row) (Wg J (Yf))) J ?_)
  refine ⟨⟨ndV (lookR F S t).1 (.slice none 0 0), ?_, ?_⟩, g⟩
  ·unfold rcvR; rw [Yfg h1]; rfl
  ·have e : (rcvR F t (ckX F t) S).1 = (lookR F S t).1 := by unfold rcvR; rw [Yfg h1]; rfl
   rw [e]; exact Xz (t := (lookR F S t).1) rfl (lookN _ _)
 replace h1 : t.kind ≠ 27 := of_decide_eq_false h1
 refine Yc (hK2 _ _ ?_)
 refine Jmd [(0, _, _), (3, _, _), (4, _, _), (5, _, _)] (Za J (Za J (Za J (Za J (Zj _))))) ?_
 refine Wya fun K6 hK6 => ?_
 refine Wya fun K7 hK7 => ?_
 refine Wma [3, 0, 3] ?_
 refine Yi J (fun _ => Zv Yd (Zk J)) ?_
 refine Qkb J (Ye Zu (Zk J) (fun _ => B3.at_ J)) ?_
 refine Yi J (fun _ => Vt (Zk J) Xy) ?_
 refine Wh [(0, _, _), (3, _, _), (4, _, _), (5, _, _), (35, _, _)] (Za J (Za J (Za J (Za J (Za J (Zj _)))))) ?_
 refine Zb (hK7 _ _ ?_)
 refine Xzc (Zk J) (fun h2 => ?_) (fun h2 => ?_)
 ·replace h2 : t.kind = 28 := of_decide_eq_true h2
  refine Wya fun K8 hK8 => ?_
  refine Wma [3, 3, 0, 1, 2] ?_
  refine Yi J (fun _ => Yl (Zk J)) ?_
  refine Yi J (fun _ => Jl (Zk J)) ?_
  refine Qkb J (Xd Uea (Zk J) J (fun _ => (h.B.grow g).row)) ?_
  refine Yh J Xaa J ?_
  intro b8 w8 N8
  have x8_3 := N8.ne B3
  have x8_4 := N8.ne B4
  have l8 := N8.ge g
  have g := g.trans N8.g
  replace B3 := B3.grow (N8.g)
  replace B4 := B4.grow (N8.g)
  have B8 := N8.blk
  refine Yfa J Qca (Zk J) (Zk J) J J B8 J J ?_
  intro wS3 hgS3 hzS3
  have C8 := B8
  clear B8
  intro B8
  replace B3 := B3.keep hgS3 (by intro h; injection h with h; first | exact x8_3 h.symm | exact x3_8 h | omega)
  replace B4 := B4.keep hgS3 (by intro h; injection h with h; first | exact x8_4 h.symm | exact x4_8 h | omega)
  have g := Zw g hgS3 (by omega)
  refine Wh [(0, _, _), (3, _, _), (4, _, _), (5, _, _), (8, _, _)] (Za J (Za J (Za J (Za J (Za J (Zj _)))))) ?_
  refine Zb (hK8 _ _ ?_)
  refine Wya fun K9 hK9 => ?_
  refine Wma [1, 3, 3, 3, 0, 2, 3, 2] ?_
  refine Zvd J Wc ?_
  intro b39 w39 hb39 how39 g39
  have y8 := B8.lt
  have y3 := B3.lt
  have y4 := B4.lt
  have how39 := how39 w.heap.size g.size
  have g := g.trans g39
  have B3 := B3.grow g39
  have B4 := B4.grow g39
  have B8 := B8.grow g39
  refine Yi J (fun _ => Yl (Zk J)) ?_
  refine Yi J (fun _ => Jl (Zk J)) ?_
  refine Yi J (fun _ => Zv Xx (Zk J)) ?_
  refine Qkb J (Ye Wf (Zk J) (fun _ => (h.B.grow g).at_ J)) ?_
  refine Uwc J Wc Qf J (by decide) (Zk J) how39 (Zk J) (Wkb Qja S.vars) (fun h0 => by obtain ⟨b, o, e, r⟩ := hrv h0; exact ⟨b, o, e, r.grow g⟩) (Jsf S.vars) (by simp only [maxLen]; omega) (by omega) g.size ?_
  intro a44 c44 w44 ov44 hg44
  have B3 := B3.keep hg44 (fun e => by have e' : b3 = b39 := (by injection e); omega)
  have B4 := B4.keep hg44 (fun e => by have e' : b4 = b39 := (by injection e); omega)
  have B8 := B8.keep hg44 (fun e => by have e' : b8 = b39 := (by injection e); omega)
  have g : G w w44 := Zsa g hg44 g.size (fun k hk => (how39.lt k hk).1)
  have ov44 : w44.ownsRow w.heap.size Wx 6 (.slice a44 (0 + S.vars.length) c44) (0 + S.vars.length) (S.vars.flatMap vrCells) := ov44
  rw [show 0 + S.vars.length = S.vars.length from Nat.zero_add _] at ov44 ⊢
  refine Yi J (fun _ => Zv Xx (Zk J)) ?_
  refine Zwb J Qm (Zk J) (Zk J) J B8 J J ?_
  intro wS4 hgS4 hzS4
  have C8 := B8
  clear B8
  intro B8
  replace B3 := B3.keep hgS4 (by intro h; injection h with h; first | exact x8_3 h.symm | exact x3_8 h | omega)
  replace B4 := B4.keep hgS4 (by intro h; injection h with h; first | exact x8_4 h.symm | exact x4_8 h | omega)
  have g := Zw g hgS4 (by omega)
  have ov44 := Vy ov44 hgS4 (.inr (Vba ov44 C8 rfl))
  refine Wh [(0, _, _), (3, _, _), (4, _, _), (5, _, _), (8, _, _)] (Za J (Za J (Za J (Za J (Za J (Zj _)))))) ?_
  refine Zb (hK9 _ _ ?_)
  refine Wya fun K10 hK10 => ?_
  refine Wma [1, 3, 3, 3, 0, 2, 3, 2] ?_
  refine Zvd J Ul ?_
  intro b46 w46 hb46 how46 g46
  have y8 := B8.lt
  have y3 := B3.lt
  have y4 := B4.lt
  have how46 := how46 w.heap.size g.size
  have g := g.trans g46
  have B3 := B3.grow g46
  have B4 := B4.grow g46
  have B8 := B8.grow g46
  have ov44 := Us ov44 g46
  refine Yi J (fun _ => Yl (Zk J)) ?_
  refine Yi J (fun _ => Jl (Zk J)) ?_
  refine Yi J (fun _ => Zv Vx (Zk J)) ?_
  refine Qkb J (Ye Qba (Zk J) (fun _ => (h.B.grow g).at_ J)) ?_
  refine Uwc J Ul Yxa J (by decide) (Zk J) how46 (Zk J) (by rw [List.length_map, Nat.mul_one]) (fun h0 => by obtain ⟨b, o, e, r⟩ := hrn h0; exact ⟨b, o, e, r.grow g⟩) (Jtf S.next) (by simp only [maxLen]; omega) (by omega) g.size ?_
  intro a51 c51 w51 ov51 hg51
  have B3 := B3.keep hg51 (fun e => by have e' : b3 = b46 := (by injection e); omega)
  have B4 := B4.keep hg51 (fun e => by have e' : b4 = b46 := (by injection e); omega)
  have B8 := B8.keep hg51 (fun e => by have e' : b8 = b46 := (by injection e); omega)
  have ov44 := Vy ov44 hg51 (Zse ov44 how46 rfl)
  have g : G w w51 := Zsa g hg51 g.size (fun k hk => (how46.lt k hk).1)
  have ov51 : w51.ownsRow w.heap.size Wdb 1 (.slice a51 (0 + S.next.length) c51) (0 + S.next.length) (S.next.map fun (k : Nat) => Value.int .i64 (k : Int)) := ov51
  rw [show 0 + S.next.length = S.next.length from Nat.zero_add _] at ov51 ⊢
  refine Yi J (fun _ => Zv Vx (Zk J)) ?_
  refine Zwb J Zlc (Zk J) (Zk J) J B8 J J ?_
  intro wS5 hgS5 hzS5
  have C8 := B8
  clear B8
  intro B8
  replace B3 := B3.keep hgS5 (by intro h; injection h with h; first | exact x8_3 h.symm | exact x3_8 h | omega)
  replace B4 := B4.keep hgS5 (by intro h; injection h with h; first | exact x8_4 h.symm | exact x4_8 h | omega)
  have g := Zw g hgS5 (by omega)
  have ov44 := Vy ov44 hgS5 (.inr (Vba ov44 C8 rfl))
  have ov51 := Vy ov51 hgS5 (.inr (Vba ov51 C8 rfl))
  refine Wh [(3, _, _), (4, _, _), (5, _, _), (8, _, _)] (Za J (Za J (Za J (Za J (Zj _))))) ?_
  refine Zb (hK10 _ _ ?_)
  refine Wya fun K11 hK11 => ?_
  refine Wma [0, 2, 3, 3, 3, 1, 2, 3] ?_
  have hP : CK F w.heap.size b8 S (.slice pf F.kids.length cf) (.slice a44 S.vars.length c44) (.slice a51 S.next.length c51) wS5 := ⟨B8, l8, (h.kF.grow g).mono (fun k hk _ => by omega), h.hF, ov44, ov51⟩
  have hk1 := (hk0.grow g).mono (D' := fun k => k < w.heap.size) (fun k hk _ => by omega)
  refine Qkb J (Xd Zc (Zk J) J (fun _ => B3.row)) ?_
  refine Ya J (Zo Ywa Yo (Xf (Zk J) (Xf (Zk J) (Xw))) J) (CkM.to (HM h2) [b3, b4] hP.chk hk1 hb hcn (List.forall_mem_cons.2 ⟨B3.lt, (List.forall_mem_cons.2 ⟨B4.lt, (List.forall_mem_nil _)⟩)⟩) g.size) ?_
  rintro v55 w55 ⟨⟨p55, c55, rfl, q55, k55⟩, hQ, t55⟩
  refine ⟨nw1, ?_⟩
  have g := Ued g t55 (Nat.le_refl _)
  have B3 := B3.gt t55 rfl
  have B4 := B4.gt t55 rfl
  obtain ⟨fv2, sv2, sn2, hQ⟩ := hQ
  have B8 := hQ.B
  refine Yi J (fun _ => Yl (Zk J)) ?_
  refine Yi J (fun _ => Vf (Zk J) J) ?_
  refine Yi J (fun _ => Vf (Zk J) J) ?_
  refine Yh J Zm J ?_
  intro b9 w9 N9
  have x9_3 := N9.ne B3
  have x9_4 := N9.ne B4
  have x9_8 := N9.ne B8
  have l9 := N9.ge g
  have k55 := k55.new N9
  have g := g.trans N9.g
  replace B3 := B3.grow (N9.g)
  replace B4 := B4.grow (N9.g)
  replace B8 := B8.grow (N9.g)
  have B9 := N9.blk
  refine Yfa J Zl (Zk J) (Zk J) J J B9 J J ?_
  intro wS6 hgS6 hzS6
  clear B9
  intro B9
  replace B3 := B3.keep hgS6 (by intro h; injection h with h; first | exact x9_3 h.symm | exact x3_9 h | omega)
  replace B4 := B4.keep hgS6 (by intro h; injection h with h; first | exact x9_4 h.symm | exact x4_9 h | omega)
  replace B8 := B8.keep hgS6 (by intro h; injection h with h; first | exact x9_8 h.symm | exact x8_9 h | omega)
  have g := Zw g hgS6 (by omega)
  have k55 := k55.keep hgS6 (by simp)
  refine Yi J (fun _ => Wy (Zk J)) ?_
  refine Wh [(4, _, _), (5, _, _), (8, _, _), (9, _, _), (10, _, _)] (Za J (Za J (Za J (Za J (Za J (Zj _)))))) ?_
  refine Zb (hK11 _ _ ?_)
  refine Wya fun K12 hK12 => ?_
  refine Ud (rowR (some b4)) [0, 3, 3, 3, 0, 3, 3, 3, 3, 3, 0, 3, 3, 1, 3] [0, 0, 2, 6, 14, 30, 62, 126, 254, 510, 1022, 2046, 4094, 255, 16383] mix (by kernel_rfl) [0, 1, 2, 3, 4, 5, 6, 7, 8, 9, 10, 11, 12, 13, 14] J ?_
  have g := gdr g
  replace B3 := B3.grow (G.drew _)
  replace B4 := B4.grow (G.drew _)
  replace B8 := B8.grow (G.drew _)
  replace B9 := B9.grow (G.drew _)
  have ov44 := Us ov44 (G.drew _)
  have ov51 := Us ov51 (G.drew _)
  have k55 := k55.grow (G.drew _)
  refine Qoe (L' := [1, 2, 3, 4, 5, 6, 7, 8, 9, 10, 11, 12, 13, 14]) 0 J J J (fun w1 hx => Xd Zc (Zk J) J (fun _ => (B9.keep hx (by intro h; first | (injection h with h; omega) | cases h)).row)) ?_
  refine Jsa (L' := [2, 3, 4, 5, 6, 7, 8, 9, 10, 11, 12, 13, 14]) 1 J J J (fun _ => Yl (Zk J)) ?_
  refine Jsa (L' := [3, 4, 5, 6, 7, 8, 9, 10, 11, 12, 13, 14]) 2 J J J (fun _ => Yl (Zk J)) ?_
  refine Jm (L' := [4, 5, 6, 7, 8, 9, 10, 11, 12, 13, 14]) 3 J J J J J (fun _ => Zv Va (Zk J)) ?_
  refine Jba (L' := [5, 6, 7, 8, 9, 10, 11, 12, 13, 14]) 4 J J J J J (fun w1 hx => Ye Zba (Zq J id) (fun _ => (B8.keep hx (by intro h; first | (injection h with h; omega) | cases h)).at_ J)) ?_
  refine Jm (L' := [6, 7, 8, 9, 10, 11, 12, 13, 14]) 5 J J J J J (fun _ => Vt (Zq J id) Xy) ?_
  refine Jsa (L' := [7, 8, 9, 10, 11, 12, 13, 14]) 6 J J J (fun _ => Zz (Zk J) (Zq J id)) ?_
  refine Jsa (L' := [8, 9, 10, 11, 12, 13, 14]) 7 J J J (fun _ => Yl (Zk J)) ?_
  refine Jm (L' := [9, 10, 11, 12, 13, 14]) 8 J J J J J (fun _ => Zv Xa (Zk J)) ?_
  refine Jm (L' := [10, 11, 12, 13, 14]) 9 J J J J J (fun _ => Zv Ws (Zq J id)) ?_
  refine Jba (L' := [11, 12, 13, 14]) 10 J J J J J (fun w1 hx => Ye Zu (Zq J id) (fun _ => (B9.keep hx (by intro h; first | (injection h with h; omega) | cases h)).at_ J)) ?_
  refine Jm (L' := [12, 13, 14]) 11 J J J J J (fun _ => Ugb (Zq J id) Xy) ?_
  refine Jsa (L' := [13, 14]) 12 J J J (fun _ => Zz (Zk J) (Zq J id)) ?_
  refine Xo 13 J J ?_
  refine Xg (L' := [14]) [0, 3, 3, 3, 0, 3, 3, 3, 3, 3, 0, 3, 3, 2, 3] J J J ?_
  refine Yfa J Zl (Zk J) (Zk J) J J B4 J J ?_
  intro wS7 hgS7 hzS7
  clear B4
  intro B4
  replace B3 := B3.keep hgS7 (by intro h; injection h with h; first | exact x4_3 h.symm | exact x3_4 h | omega)
  replace B8 := B8.keep hgS7 (by intro h; injection h with h; first | exact x4_8 h.symm | exact x8_4 h | omega)
  replace B9 := B9.keep hgS7 (by intro h; injection h with h; first | exact x4_9 h.symm | exact x9_4 h | omega)
  have g := Zw g hgS7 (by omega)
  have k55 := k55.keep hgS7 (by simp)
  refine Wa (hgS7) ?_
  refine Jsa (L' := []) 14 J J J (fun _ => Wy (Zk J)) ?_
  refine Uq [(4, _, _), (5, _, _)] (Za J (Za J (Zj _))) ?_
  refine Up (hK12 _ _ ?_)
  refine Zr (Wb (rs := [.cell 4 26, .tmp 5]) (vs := [_, _]) J J (Yy J Zc J (by first | exact B3.row | exact B4.row | exact B8.row | exact B9.row) (Wg J (Yf))) J ?_)
  have e2 : rcvR F t (ckX F t) S = (((ckT F t).mem S).1.1, (((ckT F t).mem S).1.2 && decide (((ckT F t).mem S).2.ee = 0)) && decide (8 ≤ ((ckT F t).mem S).1.1.ty.kind)) := by
   rw [em]; unfold rcvR; rw [Yeg h1, Yfg h2]; rfl
  rw [e2]; exact ⟨⟨_, rfl, Xz rfl (k55.kdN q55)⟩, g⟩
 replace h2 : t.kind ≠ 28 := of_decide_eq_false h2
 refine Yc (hK6 _ _ ?_)
 refine Jmd [(4, _, _), (5, _, _)] (Za J (Za J (Zj _))) ?_
 refine Wya fun K13 hK13 => ?_
 refine Wma [3, 2, 3] ?_
 refine Uc Zm Wl pq0 J J ?_
 refine Yfa J Zl (Zk J) (Zk J) J J B4 J J ?_
 intro wS8 hgS8 hzS8
 clear B4
 intro B4
 replace B3 := B3.keep hgS8 (by intro h; injection h with h; first | exact x4_3 h.symm | exact x3_4 h | omega)
 have g := Zw g hgS8 (by omega)
 refine Yi J (fun _ => Wy Xy) ?_
 refine Wh [(4, _, _), (5, _, _)] (Za J (Za J (Zj _))) ?_
 refine Zb (hK13 _ _ ?_)
 refine Zr (Wb (rs := [.cell 4 26, .tmp 5]) (vs := [_, _]) J J (Yy J Zc J (by first | exact B3.row | exact B4.row) (Wg J (Yf))) J ?_)
 have e2 : rcvR F t (ckX F t) S = (nd0, false) := by
  unfold rcvR; rw [Yeg h1, Yeg h2]; rfl
 rw [e2]; exact ⟨⟨_, rfl, Xz (t := nd0) rfl (Yka _ _)⟩, g⟩
set_option maxHeartbeats 2000000
def RowX (lo : Nat) (X : List Nat) (w : World) (l : List Ty) (v : Value) : Prop := ∃ p c, v = .slice p l.length c ∧ (0 < l.length → ∃ b o cs fr, p = some ⟨b, o, none⟩ ∧ (lo ≤ b ∧ b ∉ X) ∧ w.heap[b]? = some (.cells cs Jj fr) ∧ RowAt w b o (l.flatMap tyCells))
section
variable {lo lo' n0 j b : Nat} {X : List Nat} {w w' : World} {l : List Ty} {v : Value}
theorem RowX.same (h : RowX lo X w l v) {X' : List Nat} (hs : ∀ b, b < w.heap.size → (∃ cs fr, w.heap[b]? = some (.cells cs Jj fr)) → lo ≤ b → b ∉ X → b ∉ X' ∧ w'.heap[b]? = w.heap[b]?) : RowX lo X' w' l v := by
  obtain ⟨p, c, rfl, h⟩ := h
  refine ⟨p, c, rfl, fun h0 => ?_⟩
  obtain ⟨b, o, cs, fr, rfl, hb, hh, hR⟩ := h h0
  obtain ⟨q1, q2⟩ := hs b (Array.getElem?_eq_some_iff.1 hh).1 ⟨cs, fr, hh⟩ hb.1 hb.2
  exact ⟨b, o, cs, fr, rfl, ⟨hb.1, q1⟩, q2.trans hh, fun i v hi => (World.cell?_of_block q2).trans (hR i v hi)⟩
theorem RowX.grow (h : RowX lo X w l v) (g : G w w') : RowX lo X w' l v := h.same fun b hlt _ _ hx => ⟨hx, g.block hlt⟩
theorem RowX.gt (h : RowX lo X w l v) (g : GT mutR n0 w w') : RowX lo X w' l v := h.same fun b hlt ⟨cs, fr, hh⟩ _ hx => ⟨hx, g.block b hlt (.inr fun ⟨cs', f', fr', h1, h2⟩ => by
  rw [hh] at h1; injection h1 with h1; injection h1 with _ h1; subst h1; exact absurd h2 (by decide))⟩
theorem RowX.keep (h : RowX lo X w l v) (hg : w.grownBy w' (some j)) (hj : j < lo ∨ j ∈ X) : RowX lo X w' l v := h.same fun b hlt _ hl hx => ⟨hx, hg.block b hlt fun e => by
  injection e with e; subst e
  rcases hj with hj | hj
  · omega
  · exact hx hj⟩
theorem RowX.keept {e : TypeId} {xs : List Value} (h : RowX lo X w l v) (hg : w.grownBy w' (some j)) (hB : Blk w j e xs) (he : Nat.beq e Jj = false) : RowX lo X w' l v := h.same fun b hlt ⟨cs, fr, hh⟩ hl hx => ⟨hx, hg.block b hlt fun q => by
  injection q with q; subst q
  unfold Blk at hB
  rw [hB] at hh; injection hh with hh; injection hh with _ hh; subst hh; simp at he⟩
theorem RowX.new {e : TypeId} {xs : List Value} (h : RowX lo X w l v) (N : New w w' b e xs) : RowX lo (b :: X) w' l v := h.same fun b' hlt _ hl hx => ⟨fun hm => by
  have := N.at_
  rcases List.mem_cons.1 hm with q | q
  · omega
  · exact hx q, N.g.block hlt⟩
theorem RowX.row (h : RowX lo X w l v) : RowT w l v := by
  obtain ⟨p, c, rfl, h⟩ := h
  exact ⟨p, c, rfl, fun h0 => by obtain ⟨b, o, cs, fr, e, _, hh, hR⟩ := h h0; exact ⟨b, o, cs, fr, e, hh, hR⟩⟩
theorem RowT.x (h : RowT w l v) : RowX 0 [] w l v := by
  obtain ⟨p, c, rfl, h⟩ := h
  exact ⟨p, c, rfl, fun h0 => by obtain ⟨b, o, cs, fr, e, hh, hR⟩ := h h0; exact ⟨b, o, cs, fr, e, ⟨Nat.zero_le _, List.not_mem_nil⟩, hh, hR⟩⟩
theorem Ji : RowX lo X w [] (.slice none 0 0) := ⟨none, 0, rfl, fun h => absurd h (by decide)⟩
theorem Ja {k c : Nat} {xs : List Value} (h : Blk w k Jj xs) (hx : xs = l.flatMap tyCells) (hl : lo ≤ k) : RowX lo [] w l (.slice (some ⟨k, 0, none⟩) l.length c) := ⟨_, _, rfl, fun _ => ⟨k, 0, _, _, rfl, ⟨hl, List.not_mem_nil⟩, h, hx ▸ h.row⟩⟩
theorem Uwd (h : w.ownsRow lo Jj 2 v l.length (l.flatMap tyCells)) : RowX lo [] w l v := by
  obtain ⟨p, c, rfl, _⟩ := Zxb h
  refine ⟨p, c, rfl, fun h0 => ?_⟩
  obtain ⟨g, c', cs, hv, hg, hB, _⟩ := Zqd h h0
  obtain ⟨g2, c2, hv2, _, hR, _⟩ := Qqa h h0
  injection hv with e1 _ _
  rw [e1] at hv2; injection hv2 with e2 _ _; injection e2 with e2; injection e2 with e2
  subst e2
  exact ⟨g, 0, _, _, e1, ⟨hg, List.not_mem_nil⟩, hB, hR⟩
theorem RowT.at (h : RowT w l (.slice (some ⟨j, b, none⟩) l.length lo)) (i : Nat) (hi : i < l.length) : RowAt w j (b + i * 2) (tyCells l[i]) := by
  obtain ⟨p, c, hv, h⟩ := h
  injection hv with e1 _ _
  subst e1
  obtain ⟨b', o, cs, fr, e, _, hR⟩ := h (by omega)
  injection e with e; injection e with e1 e2; subst e1; subst e2
  exact Wcc (f := tyCells) (z := 2) Wmb hR hi
end
def MthT (lo : Nat) (r : List Ty × Ty × Bool) (v : Value) (w : World) : Prop := ∃ l, v = .tuple #[l, tyV r.2.1, .bool r.2.2] ∧ RowX lo [] w r.1 l
theorem Zpf (y : Ty) (s : List UInt8) (w : World) : Ret PP Upb #[tyV y, Str s] w fun v w' => MthT w.heap.size (mthF y s) v w' ∧ G w w' := by
  have g := G.refl w
  refine Yp (m := 90) Xtc J J [(0, True, _), (1, True, _)] (Za J (Za J (Zj _))) ?_
  refine Ze (Zg (Wq J (Zk J) J ?_))
  intro b2 w2 N2
  have l2 := N2.ge g
  have g := g.trans N2.g
  have E := (Wo _).new N2
  refine Zp J (Yh J Yq J ?_)
  intro b5 w5 N5
  have l5 := N5.ge g
  have g := g.trans N5.g
  replace E := E.new N5
  refine Zp J (Zb (kq (Ze (Ze (Zg (Yk Zs J J E.g1.row (Xk J (Zo Jfb Yo (aqc J aq0) J) (Zfd _ _) (fun w13 g13 => ?_))))))))
  have g := g.trans g13
  replace E := E.grow g13
  refine Wia J (Zb (kq (Yv J (fun h1 => ?_) (fun h1 => ?_))))
  · (try simp only [Xq] at h1)
    refine Ze (Zg (Uc Yq Xv pq0 J J (Zp J (Yt Yn J J J E.g0 ?_))))
    intro wS1 hgS1 _ BS
    replace E := E.s0 hgS1 BS
    have g := Zw g hgS1 (by omega)
    refine Zp J (Zb (kq (Zr (Wb (rs := [.tmp 4, .cell 5 24, .tmp 6]) (vs := [_, _, _]) J J (Wg J (Yy J Zs J (E.g0.row) (Wg J (Yf)))) J ?_))))
    refine ⟨?_, g⟩
    unfold mthF; rw [h1]; exact ⟨_, rfl, Ji⟩
  refine Yc (kq (Ze (Zg (Uc Yq Xv pq0 J J (Uc Yq Xv (pqc J pq0) J J (Uc Yq Xv (pqc J pq0) J J (Yh J Yq J ?_)))))))
  intro b7 w7 N7
  have l7 := N7.ge g
  have g := g.trans N7.g
  replace E := E.new N7
  refine Yh J Yq J ?_
  intro b8 w8 N8
  have l8 := N8.ge g
  have g := g.trans N8.g
  replace E := E.new N8
  refine Yh J Yq J ?_
  intro b9 w9 N9
  have l9 := N9.ge g
  have g := g.trans N9.g
  replace E := E.new N9
  refine Yt Yn J J J E.g2 ?_
  intro wS2 hgS2 _ BS
  replace E := E.s2 hgS2 BS
  have g := Zw g hgS2 (by omega)
  refine Yt Yn J J J E.g1 ?_
  intro wS3 hgS3 _ BS
  replace E := E.s1 hgS3 BS
  have g := Zw g hgS3 (by omega)
  refine Yt Yn J J J E.g0 ?_
  intro wS4 hgS4 _ BS
  replace E := E.s0 hgS4 BS
  have g := Zw g hgS4 (by omega)
  refine Zb (kq (Ze (Ze (Zg (Zx Ws J (Yg Zu J (E.g4.at_ J) (Zb (kq (Yu (Ze (Ze (Zg (Xt J J (Zp J (Zb (kq (?_)))))))))))))))))
  refine' Xi [(1, _, _), (2, _, _), (4, _, _), (5, _, _), (6, _, _), (7, _, _), (8, _, _), (9, _, _), (20, _, _)] (Za J (Za J (Za J (Za J (Za J (Za J (Za J (Za J (Za J (Za J (Zj _))))))))))) J (fun hb2 => ?y2) (kq ?n2)
  case y2 =>
   refine Zg (Xt J J (Zp J (Wh [(21, _, _), (1, _, _), (2, _, _), (4, _, _), (5, _, _), (6, _, _), (7, _, _), (8, _, _), (9, _, _), (20, _, _)] (Za J (Za J (Za J (Za J (Za J (Za J (Za J (Za J (Za J (Za J (Zj _))))))))))) (?_))))
   exact Zb knr
  case n2 =>
   refine Yv J (fun h3 => ?_) (fun h3 => ?_)
   · have hk : y.kind = 8 ∨ y.kind = 9 := by simpa using h3
     refine Ze (Zg (Zt J (Wi J J (Zt J (Zn J J J (fun _ => Yl (Zk J)) (Zn J J J (fun _ => Yya (Zq J id) Xy) (Yi J (fun _ => Xh (Zk J) (Zq J id)) (Zp J (Zb (kq (Ze (Zg (Zt J (Wi J J (Zt J (Zn J J J (fun _ => Yl (Zk J)) (?_)))))))))))))))))
     refine Zn J J J (fun _ => Yya (Zq J id) Xy) (Yi J (fun _ => Xh (Zk J) (Zq J id)) (Zp J (Zb (kq (Ze (Ud (rowR (some b5)) [0, 3, 3, 3, 3, 3, 0, 3, 3, 3, 3, 1, 3] [0, 0, 2, 6, 14, 30, 62, 126, 254, 510, 30, 1055, 4095] mix (by kernel_rfl) [0, 1, 2, 3, 4, 5, 6, 7, 8, 9, 10, 11, 12] J ?_))))))
     have g := gdr g
     replace E := E.dr
     refine Vk 0 J J (fun w1 hx => Xd Zs (Zk J) J (fun _ => (E.g2.keep hx (fun h => E.ne 2 3 J J J (Option.some.inj h))).row)) (Xc 1 J J (fun _ => Yl (Zk J)) (Xc 2 J J (fun _ => Yl (Zk J)) (Jm (L' := [4, 5, 6, 7, 8, 9, 10, 11, 12]) 3 J J J J J (fun _ => Yl (Zk J)) (Jm (L' := [5, 6, 7, 8, 9, 10, 11, 12]) 4 J J J J J (fun _ => Yl (Zq J id)) (Jm (L' := [6, 7, 8, 9, 10, 11, 12]) 5 J J J J J (fun _ => Zv Ws (Zk J)) (Jba (L' := [7, 8, 9, 10, 11, 12]) 6 J J J J J (fun w1 hx => Ye Zu (Zq J id) (fun _ => (E.g4.keep hx (fun h => E.ne 4 3 J J J (Option.some.inj h))).at_ J)) (Jm (L' := [8, 9, 10, 11, 12]) 7 J J J J J (fun _ => Vt (Zq J id) Xy) (Jm (L' := [9, 10, 11, 12]) 8 J J J J J (fun _ => Zz (Zq J id) (Zq J id)) (Xc 9 J J (fun _ => Xh (Zk J) (Zq J id)) (Xc 10 J J (fun _ => Wy Xy) (Xo 11 J J ?_)))))))))))
     refine Xg (L' := [12]) [0, 3, 3, 3, 3, 3, 0, 3, 3, 3, 3, 2, 3] J J J ?_
     refine Yt Yn J J J E.g3 ?_
     intro wS5 hgS5 _ BS
     replace E := E.s3 hgS5 BS
     have g := Zw g hgS5 (by omega)
     refine Wa (hgS5) ?_
     refine Xc 12 J J (fun _ => Wy (Zk J)) (Uq [(4, _, _), (5, _, _), (6, _, _), (7, _, _)] (Za J (Za J (Za J (Za J (Zj _))))) (Up (kq (Zr (Wb (rs := [.tmp 4, .cell 5 24, .tmp 6]) (vs := [_, _, _]) J J (Wg J (Yy J Zs J (E.g3.row) (Wg J (Yf)))) J ?_)))))
     refine ⟨?_, g⟩
     unfold mthF; rw [h1]
     rcases hk with hk | hk
     · rw [hk]; exact ⟨_, by simp [Qua, hk]; rfl, Ji⟩
     · rw [hk]; exact ⟨_, by simp [Qua, hk, Bool.or_assoc]; rfl, Ji⟩
   have hk : ¬ (y.kind = 8 ∨ y.kind = 9) := by simpa using h3
   have k8 : decide (y.kind = 8) = false := by rw [decide_eq_false_iff_not]; exact fun e => hk (.inl e)
   have k9 : decide (y.kind = 9) = false := by rw [decide_eq_false_iff_not]; exact fun e => hk (.inr e)
   refine Ze (Zg (Xt J J (Zp J (Zb (kq (Yv J (fun h4 => ?_) (fun h4 => ?_)))))))
   · (try simp only [Xq] at h4)
     refine Ze (Ze (Zg (Zt J (Wi J J (Zb (kq (Yv J (fun h5 => ?_) (fun h5 => ?_))))))))
     · (try simp only [Xq] at h5)
       refine Ze (?_)
       skip
       refine Wr [0, 1, 0, 3, 2, 3] [true, true, false, true, true, true] [0, 1, 0, 3, 15, 31] mix (by kernel_rfl) ?_
       have g := gdr g
       replace E := E.dr
       have EC := E
       refine Yk Zs J J E.g1.row (Yb _ J Un Yq (pqc J pq0) J J ?_)
       intro b51 w51 N51
       have l51 := N51.ge g
       have g := g.trans N51.g
       replace E := E.new N51
       refine Vua J (Xd Zs (Zk J) J (fun _ => EC.g2.row)) (Zp J (Yt Yn J J J E.g4 ?_))
       intro wS6 hgS6 _ BS
       replace E := E.s4 hgS6 BS
       have g := Zw g hgS6 (by omega)
       refine Zp J (Zb (kq (Zr (Wb (rs := [.tmp 4, .cell 5 24, .tmp 6]) (vs := [_, _, _]) J J (Wg J (Yy J Zs J (E.g4.row) (Wg J (Yf)))) J ?_))))
       refine ⟨?_, g⟩
       unfold mthF
       simp only [k8, k9, Qua, h1, h3, h4, h5, cond_true, cond_false]
       first
       | exact ⟨_, rfl, Ji⟩
       | exact ⟨_, rfl, Ja (l := [_]) (by first | assumption | exact E.g 0 rfl) rfl (by assumption)⟩
       | exact ⟨_, rfl, Ja (l := [_, _]) (by first | assumption | exact E.g 0 rfl) rfl (by assumption)⟩
     refine Yc (kq (Ze (Wr [0, 3, 3, 3, 3, 3, 3, 3, 2, 3] [true, true, true, true, true, true, true, true, true, true] [0, 0, 2, 6, 14, 30, 62, 14, 143, 511] mix (by kernel_rfl) ?_)))
     have g := gdr g
     replace E := E.dr
     refine Yk Zs J J E.g2.row (Zt J (Wi J J (Zt J (Zn J J J (fun _ => Yl (Zk J)) (Zn J J J (fun _ => Yya (Zq J id) Xy) (Yi J (fun _ => Xh (Zk J) (Zq J id)) (Zp J (Yt Yn J J J E.g3 ?_))))))))
     intro wS7 hgS7 _ BS
     replace E := E.s3 hgS7 BS
     have g := Zw g hgS7 (by omega)
     refine Zp J (Zb (kq (Zr (Wb (rs := [.tmp 4, .cell 5 24, .tmp 6]) (vs := [_, _, _]) J J (Wg J (Yy J Zs J (E.g3.row) (Wg J (Yf)))) J ?_))))
     refine ⟨?_, g⟩
     unfold mthF
     simp only [k8, k9, Qua, h1, h3, h4, h5, cond_true, cond_false]
     first
     | exact ⟨_, rfl, Ji⟩
     | exact ⟨_, rfl, Ja (l := [_]) (by first | assumption | exact E.g 0 rfl) rfl (by assumption)⟩
     | exact ⟨_, rfl, Ja (l := [_, _]) (by first | assumption | exact E.g 0 rfl) rfl (by assumption)⟩
   refine Ze (Zg (Xt J J (Zp J (Zb (kq (Yv J (fun h6 => ?_) (fun h6 => ?_)))))))
   · (try simp only [Xq] at h6)
     refine Ze (Zg (Zt J (Wi J J (Zb (kq (Yv J (fun h7 => ?_) (fun h7 => ?_)))))))
     · (try simp only [Xq] at h7)
       refine Ze (?_)
       skip
       refine Wr [3, 1, 0, 3, 2, 3] [true, true, false, true, true, true] [0, 1, 0, 3, 15, 31] mix (by kernel_rfl) ?_
       have g := gdr g
       replace E := E.dr
       have EC := E
       refine Uc Yq Xv (pqc J pq0) J J (Yb _ J Un Yq (pqc J pq0) J J ?_)
       intro b65 w65 N65
       have l65 := N65.ge g
       have g := g.trans N65.g
       replace E := E.new N65
       refine Vua J (Xd Zs (Zk J) J (fun _ => EC.g2.row)) (Zp J (Yt Yn J J J E.g4 ?_))
       intro wS8 hgS8 _ BS
       replace E := E.s4 hgS8 BS
       have g := Zw g hgS8 (by omega)
       refine Zp J (Zb (kq (Zr (Wb (rs := [.tmp 4, .cell 5 24, .tmp 6]) (vs := [_, _, _]) J J (Wg J (Yy J Zs J (E.g4.row) (Wg J (Yf)))) J ?_))))
       refine ⟨?_, g⟩
       unfold mthF
       simp only [k8, k9, Qua, h1, h3, h4, h6, h7, cond_true, cond_false]
       first
       | exact ⟨_, rfl, Ji⟩
       | exact ⟨_, rfl, Ja (l := [_]) (by first | assumption | exact E.g 0 rfl) rfl (by assumption)⟩
       | exact ⟨_, rfl, Ja (l := [_, _]) (by first | assumption | exact E.g 0 rfl) rfl (by assumption)⟩
     refine Yc (kq (Ze (Wr [0, 3, 2, 3] [true, true, true, true] [0, 0, 3, 7] mix (by kernel_rfl) ?_)))
     have g := gdr g
     replace E := E.dr
     refine Yk Zs J J E.g2.row (Zp J (Yt Yn J J J E.g3 ?_))
     intro wS9 hgS9 _ BS
     replace E := E.s3 hgS9 BS
     have g := Zw g hgS9 (by omega)
     refine Zp J (Zb (kq (Zr (Wb (rs := [.tmp 4, .cell 5 24, .tmp 6]) (vs := [_, _, _]) J J (Wg J (Yy J Zs J (E.g3.row) (Wg J (Yf)))) J ?_))))
     refine ⟨?_, g⟩
     unfold mthF
     simp only [k8, k9, Qua, h1, h3, h4, h6, h7, cond_true, cond_false]
     first
     | exact ⟨_, rfl, Ji⟩
     | exact ⟨_, rfl, Ja (l := [_]) (by first | assumption | exact E.g 0 rfl) rfl (by assumption)⟩
     | exact ⟨_, rfl, Ja (l := [_, _]) (by first | assumption | exact E.g 0 rfl) rfl (by assumption)⟩
   refine Ze (Zg (Xt J J (Zp J (Zb (kq (Yv J (fun h8 => ?_) (fun h8 => ?_)))))))
   · (try simp only [Xq] at h8)
     refine Ze (Zg (Zt J (Zb (kq (Yu (Ze (Zg (Wi J J (Zp J (Zb (kq (Yv J (fun h9 => ?_) (fun h9 => ?_)))))))))))))
     · (try simp only [Xq] at h9)
       refine Ze (Wr [0, 3, 2, 3] [true, true, true, true] [0, 0, 3, 7] mix (by kernel_rfl) ?_)
       have g := gdr g
       replace E := E.dr
       refine Yk Zs J J E.g1.row (Zp J (Yt Yn J J J E.g3 ?_))
       intro wS10 hgS10 _ BS
       replace E := E.s3 hgS10 BS
       have g := Zw g hgS10 (by omega)
       refine Zp J (Zb (kq (Zr (Wb (rs := [.tmp 4, .cell 5 24, .tmp 6]) (vs := [_, _, _]) J J (Wg J (Yy J Zs J (E.g3.row) (Wg J (Yf)))) J ?_))))
       refine ⟨?_, g⟩
       unfold mthF
       simp only [k8, k9, Qua, h1, h3, h4, h6, h8, h9, cond_true, cond_false]
       first
       | exact ⟨_, rfl, Ji⟩
       | exact ⟨_, rfl, Ja (l := [_]) (by first | assumption | exact E.g 0 rfl) rfl (by assumption)⟩
       | exact ⟨_, rfl, Ja (l := [_, _]) (by first | assumption | exact E.g 0 rfl) rfl (by assumption)⟩
     refine Ze (Zg (Wi J J (Zp J (Zb (kq (Yv J (fun h10 => ?_) (fun h10 => ?_)))))))
     · (try simp only [Xq] at h10)
       refine Ze (?_)
       skip
       refine Wr [0, 1, 0, 3, 2, 3] [true, true, false, true, true, true] [0, 1, 0, 3, 15, 31] mix (by kernel_rfl) ?_
       have g := gdr g
       replace E := E.dr
       have EC := E
       refine Yk Zs J J E.g1.row (Yb _ J Un Yq (pqc J pq0) J J ?_)
       intro b76 w76 N76
       have l76 := N76.ge g
       have g := g.trans N76.g
       replace E := E.new N76
       refine Vua J (Xd Zs (Zk J) J (fun _ => EC.g2.row)) (Zp J (Yt Yn J J J E.g4 ?_))
       intro wS11 hgS11 _ BS
       replace E := E.s4 hgS11 BS
       have g := Zw g hgS11 (by omega)
       refine Zp J (Zb (kq (Zr (Wb (rs := [.tmp 4, .cell 5 24, .tmp 6]) (vs := [_, _, _]) J J (Wg J (Yy J Zs J (E.g4.row) (Wg J (Yf)))) J ?_))))
       refine ⟨?_, g⟩
       unfold mthF
       simp only [k8, k9, Qua, h1, h3, h4, h6, h8, h9, h10, cond_true, cond_false]
       first
       | exact ⟨_, rfl, Ji⟩
       | exact ⟨_, rfl, Ja (l := [_]) (by first | assumption | exact E.g 0 rfl) rfl (by assumption)⟩
       | exact ⟨_, rfl, Ja (l := [_, _]) (by first | assumption | exact E.g 0 rfl) rfl (by assumption)⟩
     refine Ze (Zg (Wi J J (Zp J (Zb (kq (Yv J (fun h11 => ?_) (fun h11 => ?_)))))))
     · (try simp only [Xq] at h11)
       refine Ze (?_)
       skip
       refine Wr [0, 1, 0, 3, 2, 3] [true, true, false, true, true, true] [0, 1, 0, 3, 15, 31] mix (by kernel_rfl) ?_
       have g := gdr g
       replace E := E.dr
       have EC := E
       refine Yk Zs J J E.g1.row (Yb _ J Un Yq (pqc J pq0) J J ?_)
       intro b81 w81 N81
       have l81 := N81.ge g
       have g := g.trans N81.g
       replace E := E.new N81
       refine Vua J (Xd Zs (Zk J) J (fun _ => EC.g1.row)) (Zp J (Yt Yn J J J E.g4 ?_))
       intro wS12 hgS12 _ BS
       replace E := E.s4 hgS12 BS
       have g := Zw g hgS12 (by omega)
       refine Zp J (Zb (kq (Zr (Wb (rs := [.tmp 4, .cell 5 24, .tmp 6]) (vs := [_, _, _]) J J (Wg J (Yy J Zs J (E.g4.row) (Wg J (Yf)))) J ?_))))
       refine ⟨?_, g⟩
       unfold mthF
       simp only [k8, k9, Qua, h1, h3, h4, h6, h8, h9, h10, h11, cond_true, cond_false]
       first
       | exact ⟨_, rfl, Ji⟩
       | exact ⟨_, rfl, Ja (l := [_]) (by first | assumption | exact E.g 0 rfl) rfl (by assumption)⟩
       | exact ⟨_, rfl, Ja (l := [_, _]) (by first | assumption | exact E.g 0 rfl) rfl (by assumption)⟩
     refine Ze (Zg (Wi J J (Zp J (Zb (kq (Yv J (fun h12 => ?_) (fun h12 => ?_)))))))
     · (try simp only [Xq] at h12)
       refine Ze (?_)
       skip
       refine Wr [0, 0, 1, 0, 3, 2, 3] [true, true, true, false, true, true, true] [0, 0, 3, 0, 7, 31, 63] mix (by kernel_rfl) ?_
       have g := gdr g
       replace E := E.dr
       have EC := E
       refine Yk Zs J J E.g1.row (Yk Zs J J E.g1.row (Yb _ J Un Yq (pqc J (pqc J pq0)) J J ?_))
       intro b87 w87 N87
       have l87 := N87.ge g
       have g := g.trans N87.g
       replace E := E.new N87
       refine Vua J (Xd Zs (Zk J) J (fun _ => EC.g0.row)) (Zp J (Yt Yn J J J E.g4 ?_))
       intro wS13 hgS13 _ BS
       replace E := E.s4 hgS13 BS
       have g := Zw g hgS13 (by omega)
       refine Zp J (Zb (kq (Zr (Wb (rs := [.tmp 4, .cell 5 24, .tmp 6]) (vs := [_, _, _]) J J (Wg J (Yy J Zs J (E.g4.row) (Wg J (Yf)))) J ?_))))
       refine ⟨?_, g⟩
       unfold mthF
       simp only [k8, k9, Qua, h1, h3, h4, h6, h8, h9, h10, h11, h12, cond_true, cond_false]
       first
       | exact ⟨_, rfl, Ji⟩
       | exact ⟨_, rfl, Ja (l := [_]) (by first | assumption | exact E.g 0 rfl) rfl (by assumption)⟩
       | exact ⟨_, rfl, Ja (l := [_, _]) (by first | assumption | exact E.g 0 rfl) rfl (by assumption)⟩
     refine Yc (kq (Ze (Wr [0, 3, 2, 3] [true, true, true, true] [0, 0, 3, 7] mix (by kernel_rfl) ?_)))
     have g := gdr g
     replace E := E.dr
     refine Yk Zs J J E.g2.row (Zp J (Yt Yn J J J E.g3 ?_))
     intro wS14 hgS14 _ BS
     replace E := E.s3 hgS14 BS
     have g := Zw g hgS14 (by omega)
     refine Zp J (Zb (kq (Zr (Wb (rs := [.tmp 4, .cell 5 24, .tmp 6]) (vs := [_, _, _]) J J (Wg J (Yy J Zs J (E.g3.row) (Wg J (Yf)))) J ?_))))
     refine ⟨?_, g⟩
     unfold mthF
     simp only [k8, k9, Qua, h1, h3, h4, h6, h8, h9, h10, h11, h12, cond_true, cond_false]
     first
     | exact ⟨_, rfl, Ji⟩
     | exact ⟨_, rfl, Ja (l := [_]) (by first | assumption | exact E.g 0 rfl) rfl (by assumption)⟩
     | exact ⟨_, rfl, Ja (l := [_, _]) (by first | assumption | exact E.g 0 rfl) rfl (by assumption)⟩
   refine Yc (kq (Ze (Wr [0, 3, 2, 3] [true, true, true, true] [0, 0, 3, 7] mix (by kernel_rfl) ?_)))
   have g := gdr g
   replace E := E.dr
   refine Yk Zs J J E.g2.row (Zp J (Yt Yn J J J E.g3 ?_))
   intro wS15 hgS15 _ BS
   replace E := E.s3 hgS15 BS
   have g := Zw g hgS15 (by omega)
   refine Zp J (Zb (kq (Zr (Wb (rs := [.tmp 4, .cell 5 24, .tmp 6]) (vs := [_, _, _]) J J (Wg J (Yy J Zs J (E.g3.row) (Wg J (Yf)))) J ?_))))
   refine ⟨?_, g⟩
   unfold mthF
   simp only [k8, k9, Qua, h1, h3, h4, h6, h8, cond_true, cond_false]
   first
   | exact ⟨_, rfl, Ji⟩
   | exact ⟨_, rfl, Ja (l := [_]) (by first | assumption | exact E.g 0 rfl) rfl (by assumption)⟩
   | exact ⟨_, rfl, Ja (l := [_, _]) (by first | assumption | exact E.g 0 rfl) rfl (by assumption)⟩
theorem Uxd (y : Ty) (s : List UInt8) {w : World} (Z : List Nat) (hZ : ∀ j ∈ Z, j < w.heap.size) : Ret PP Upb #[tyV y, Str s] w fun r w' => (∃ p c, r = .tuple #[.slice p (mthF y s).1.length c, tyV (mthF y s).2.1, .bool (mthF y s).2.2] ∧ RowX w.heap.size Z w' (mthF y s).1 (.slice p (mthF y s).1.length c)) ∧ G w w' :=
  (Zpf y s w).mono fun r w' hr => by
    obtain ⟨⟨l, e, h⟩, h1⟩ := hr
    obtain ⟨p, c, rfl, _⟩ := id h
    exact ⟨⟨p, c, e, h.same fun b _ _ hl _ => ⟨fun hm => by have := hZ b hm; omega, rfl⟩⟩, h1⟩
theorem CkR.to {F t : Nd} (H : CkR F t) {n0 b : Nat} {S : CSt} {w : World} {v : Value} {N m0 : Nat} (Z : List Nat) (h : Chk F n0 b S w) (hk : Kd w (fun k => k < n0) t.kids v) (hb : Bd S N) (hc : N + count t ≤ 1000000) (hZ : ∀ j ∈ Z, j < w.heap.size) (hm : m0 ≤ w.heap.size) :
    Ret PP Wea #[.pointer (some ⟨b, 0, none⟩), ndV t v] w fun r w' => (∃ p c, r = .tuple #[ndV ((ckT F t).rcv S).1 (.slice p ((ckT F t).rcv S).1.kids.length c), .bool ((ckT F t).rcv S).2] ∧ m0 ≤ w.heap.size ∧ KdX w.heap.size Z w' ((ckT F t).rcv S).1.kids (.slice p ((ckT F t).rcv S).1.kids.length c)) ∧ G w w' :=
  (H h hk hb hc).mono fun r w' hr => by
    obtain ⟨⟨u, e, p, c, e2, k⟩, h1⟩ := hr
    subst e2
    exact ⟨⟨p, c, e, hm, KdN.x k hZ⟩, h1⟩
set_option maxHeartbeats 4000000
theorem Uje {F : Nd} {S : CSt} {t : Nd} (h : ((lookR F S t).2 && decide ((lookR F S t).1.ref = 3)) = true) : 0 ≤ (findD F 4 t.text).2 := by
 by_cases h4 : 0 ≤ (findD F 4 t.text).2
 ·exact h4
 ·exfalso
  revert h
  unfold lookR
  cases findV S.vars t.text with
  | some v => intro h; rw [Bool.and_eq_true] at h; exact absurd (of_decide_eq_true h.2) (show ¬ (1 : Int) = 3 by decide)
  | none =>
   dsimp only
   rw [Yeg h4]
   cases decide (0 ≤ (findD F 6 t.text).2)
   ·intro h; cases h
   ·intro h; rw [Bool.and_eq_true] at h; exact absurd (of_decide_eq_true h.2) (show ¬ (2 : Int) = 3 by decide)
theorem Uyd {w : World} {n0 m : Nat} {v : Value} {xs : List Value} (h : w.ownsRow n0 Jj 2 v m xs) (k : Nat) (hk : v.ownBlock = some k) : ¬ TyR mutR w k := fun ⟨cs, f, fr, h1, h2⟩ => by
 obtain ⟨_, cs', e', fr', h3, h4⟩ := Vgb (M := fun e => Nat.beq e Jj) h rfl k hk
 rw [h1] at h3; injection h3 with h3; injection h3 with _ h3; subst h3
 have := Nat.eq_of_beq_eq_true h4
 subst this; exact absurd h2 (by decide)
theorem Zze {F t : Nd} (H : FSh F) (K : ∀ i, i < t.kids.length → CkOk F (Zd t i)) (HX : CkC F Qp t (ckT F t).ex) (hx : exprB t = true) : CkL F t := by
 intro n0 b S w v N h hk0 hb hcn
 have ec : (ckT F t).cal S = calR F t (ckX F t) S := by rw [Qw]; rfl
 have ex0 : (ckT F t).ex S = exR F t (ckX F t) S := by rw [Qw]; rfl
 rw [ec]
 obtain ⟨p, c, rfl, _⟩ := id hk0
 have hlt := h.lt
 have ct := Jo t
 have g := GT.refl mutR n0 w
 refine Yp (m := 153) Zeb J J [(0, True, _), (1, True, _)] (Za J (Za J (Zj _))) ?_
 refine Ze (Zg (Wq J (Zk J) J ?_))
 intro b3 w3 N3
 have l3 := Xm N3 g.size
 have g := gtg g N3.g
 have h := h.grow (N3.g)
 have hk0 := hk0.grow (N3.g)
 have E := (Wo _).new N3
 refine Yh J Zm J ?_
 intro b4 w4 N4
 have l4 := Xm N4 g.size
 have g := gtg g N4.g
 have h := h.grow (N4.g)
 have hk0 := hk0.grow (N4.g)
 replace E := E.new N4
 refine Zp J (Yh J Yq J ?_)
 intro b6 w6 N6
 have l6 := Xm N6 g.size
 have g := gtg g N6.g
 have h := h.grow (N6.g)
 have hk0 := hk0.grow (N6.g)
 replace E := E.new N6
 refine Zb (kq (Ze (Ze (Zg (Zx Yd J (Yg Zu J (E.g2.at_ J) (Xt J J (Zb (kq (Yv J (fun h1 => ?_) (fun h1 => ?_)))))))))))
 ·replace h1 : t.kind = 28 := of_decide_eq_true h1
  obtain ⟨_, hl, he⟩ := sh28 h1 hx
  have hc1 := cn1 hl
  have Q0 := K 0 (by omega)
  have x0 : ckX F t 0 = ckT F (Zd t 0) := Uo (by omega)
  refine Ze (Zg (Zt J (Zx Zi J (Yg Zh J (E.g2.at_ J) (?_)))))
  obtain ⟨hpe, p_31, c_31, hcell, hkid⟩ := Xs hk0 (i := 0) (by omega)
  refine Ve Zf J J (by omega) hpe (Yk Zc J J hcell (Ya J (Zo Zfb Yo (aqc J (aqc J aq0)) J) (CkR.to (Q0.rcv he) [b3, b4, b6] h hkid hb (by omega) (E.ltm (by simp [selB])) g.size) ?_))
  rintro v33 w33 ⟨⟨p33, c33, rfl, q33, k33⟩, g33⟩
  refine ⟨fun _ => g33, ?_⟩
  have g := gtg g g33
  replace E := E.grow g33
  have h := h.grow (g33)
  have hk0 := hk0.grow (g33)
  refine Zt J (Qc J J (Qc J J (Yh J Zm J ?_)))
  intro b7 w7 N7
  have l7 := Xm N7 g.size
  have k33 := k33.new N7
  have g := gtg g N7.g
  have h := h.grow (N7.g)
  have hk0 := hk0.grow (N7.g)
  replace E := E.new N7
  refine Yt Zl J J J E.g0 ?_
  intro wS1 hgS1 _ BS
  have C7 := E.g0
  replace E := E.s0 hgS1 BS
  have g := Zy g hgS1 (by omega)
  have h := h.keep hgS1 C7 rfl (by omega)
  have hk0 := hk0.keep hgS1 (fun k hk _ e => by injection e with e; omega)
  have k33 := k33.keep hgS1 (by simp)
  refine Zp J (Zb (kq (Ze (Zg (Zt J (Zb (kq (Yv J (fun h2 => ?_) (fun h2 => ?_)))))))))
  ·(try simp only [Xq] at h2)
   refine Ze (Ze (Zg (Zx Zi J (Yg Zh J (E.g3.at_ J) (?_)))))
   obtain ⟨hpe, p_39, c_39, hcell, hkid⟩ := Xs hk0 (i := 0) (by omega)
   refine Ve Zf J J (by omega) hpe (Zx Yd J (Yg Zu J (hcell.one (i := 0) J) (Xt J J (Zb (kq (Yv J (fun h3 => ?_) (fun h3 => ?_)))))))
   ·replace h3 : (Zd t 0).kind = 28 := of_decide_eq_true h3
    refine Zg (Zt J (Zx Zi J (Yg Zh J (E.g3.at_ J) (?_))))
    obtain ⟨hpe, p_47, c_47, hcell, hkid⟩ := Xs hk0 (i := 0) (by omega)
    refine Ve Zf J J (by omega) hpe (Yk Zc J J hcell (Ya J (Zo Ywa Yo (aqc J (aqc J aq0)) J) (CkM.to (Q0.mem he h3) [b3, b4, b6, b7] h hkid hb (by omega) (E.ltm (by simp [selB])) g.size) ?_))
    rintro v49 w49 ⟨⟨p49, c49, rfl, q49, k49⟩, h, g49⟩
    refine ⟨nw1, ?_⟩
    have g := g.trans g49
    replace E := E.gt g49 rfl
    refine Zt J (Qc J J (Qc J J (Yt Zl J J J E.g0 ?_)))
    intro wS2 hgS2 _ BS
    have C7 := E.g0
    replace E := E.s0 hgS2 BS
    have g := Zy g hgS2 (by omega)
    have h := h.keep hgS2 C7 rfl (by omega)
    have k49 := k49.keep hgS2 (by simp)
    refine Zb (kq (Ze (Zg (Yk Zc J J E.g3.row (Ya J (Zo Vg Yo (aqc J aq0) J) (Uw t _ _ _) ?_)))))
    rintro v53 w53 ⟨rfl, g53⟩
    refine ⟨fun _ => g53, ?_⟩
    have g := gtg g g53
    replace E := E.grow g53
    have h := h.grow (g53)
    have k49 := k49.grow (g53)
    refine Yh J Zm J ?_
    intro b9 w9 N9
    have l9 := Xm N9 g.size
    have k49 := k49.new N9
    have g := gtg g N9.g
    have h := h.grow (N9.g)
    replace E := E.new N9
    refine Yt Zl J J J E.g0 ?_
    intro wS3 hgS3 _ BS
    have C9 := E.g0
    replace E := E.s0 hgS3 BS
    have g := Zy g hgS3 (by omega)
    have h := h.keep hgS3 C9 rfl (by omega)
    have k49 := k49.keep hgS3 (by simp)
    refine Zb (kq (Ze (Zg (Yk Zc J J E.g1.row (Yb _ J Zf Zm (pqc J pq0) J J ?_)))))
    intro b55 w55 N55
    have l55 := Xm N55 g.size
    have k49 := k49.new N55
    have g := gtg g N55.g
    have h := h.grow (N55.g)
    replace E := E.new N55
    refine Zx Zi J (Vz Xb J J J E.g1 ?_)
    intro wS4 hgS4 _ BS
    have C9 := E.g1
    replace E := E.s1 hgS4 BS
    have g := Zy g hgS4 (by omega)
    have h := h.keep hgS4 C9 rfl (by omega)
    have k49 := k49.keep hgS4 (by simp)
    refine Zb (kq (Ze (Zg (Zx Xa J (Yk Zs J J (E.g2.row.part 5 2) (Zx Ym J (Yg Yr J (E.g5.at_ J) (Ya J (Zo Uqb Yo (aqc J (aqc J aq0)) J) (Uxd _ _ [b3, b4, b6, b7, b9] (E.ltm (by simp [selB]))) ?_))))))))
    rintro v62 w62 ⟨⟨pp62, cp62, rfl, hr62⟩, g62⟩
    refine ⟨fun _ => g62, ?_⟩
    have g := gtg g g62
    replace E := E.grow g62
    have h := h.grow (g62)
    have k49 := k49.grow (g62)
    refine Zt J (Qc J J (Qc J J (Qc J J (Yh J Yq J ?_))))
    intro b11 w11 N11
    have l11 := Xm N11 g.size
    have hr62 := hr62.new N11
    have k49 := k49.new N11
    have g := gtg g N11.g
    have h := h.grow (N11.g)
    replace E := E.new N11
    refine Zp J (Yt Yn J J J E.g0 ?_)
    intro wS5 hgS5 _ BS
    have C11 := E.g0
    replace E := E.s0 hgS5 BS
    have g := Zy g hgS5 (by omega)
    first | have hr62 := hr62.keept hgS5 C11 rfl | have hr62 := hr62.keep hgS5 (by first | exact .inl (by omega) | simp)
    have h := h.keep hgS5 C11 rfl (by omega)
    have k49 := k49.keep hgS5 (by simp)
    refine Zp J (Zb (kq (Ze (Ze (Zg (Zt J (Wia J (Zb (kq (Yv J (fun h4 => ?_) (fun h4 => ?_)))))))))))
    ·(try simp only [Xq] at h4)
     refine Zg (Zt J (Zx Yw J (Yg Zu J (E.g6.at_ J) (Ya J (Zo Yz Yo (aqc J (aqc J (aqc J aq0))) J) (Vj t.pos 5 h) ?_))))
     rintro v71 w71 ⟨rfl, h, g71⟩
     refine ⟨nw1, ?_⟩
     have g := g.trans g71
     replace E := E.gt g71 rfl
     have hr62 := hr62.gt g71
     have k49 := k49.gt g71
     refine Zb (kq (Ze (Ud (rowR (some b4)) [0, 3, 0, 1, 3, 2] [0, 0, 0, 1, 11, 31] mix (by kernel_rfl) [0, 1, 2, 3, 4, 5] J ?_)))
     have g := gtd g
     replace E := E.dr
     have hr62 := hr62.grow (G.drew _)
     have h := h.grow (G.drew _)
     have k49 := k49.grow (G.drew _)
     refine Vk 0 J J (fun w1 hx => Xd Zc (Zk J) J (fun _ => (E.g2.keep hx (fun q => (E.ne 2 5 J J J) (by injection q))).row)) (Xc 1 J J (fun _ => Yl (Zk J)) (Vk 2 J J (fun w1 hx => Xd Zs (Zk J) J (fun _ => (E.g0.keep hx (fun q => (E.ne 0 5 J J J) (by injection q))).row)) (Xo 3 J J ?_)))
     refine Xg (L' := [4, 5]) [0, 3, 0, 2, 3, 2] J J J ?_
     refine Yt Zl J J J E.g5 ?_
     intro wS6 hgS6 _ BS
     have C4 := E.g5
     replace E := E.s5 hgS6 BS
     have g := Zy g hgS6 (by omega)
     first | have hr62 := hr62.keept hgS6 C4 rfl | have hr62 := hr62.keep hgS6 (by first | exact .inl (by omega) | simp)
     have h := h.keep hgS6 C4 rfl (by omega)
     have k49 := k49.keep hgS6 (by simp)
     refine Wa (hgS6) ?_
     refine Xc 4 J J (fun _ => Wy (Zk J)) (Xo 5 J J ?_)
     refine Wt (L' := []) [0, 3, 0, 2, 3, 2] J J J J ?_
     refine Yt Yn J J J E.g4 ?_
     intro wS7 hgS7 _ BS
     have C6 := E.g4
     replace E := E.s4 hgS7 BS
     have g := Zy g hgS7 (by omega)
     first | have hr62 := hr62.keept hgS7 C6 rfl | have hr62 := hr62.keep hgS7 (by first | exact .inl (by omega) | simp)
     have h := h.keep hgS7 C6 rfl (by omega)
     have k49 := k49.keep hgS7 (by simp)
     refine Vm ?_
     refine Uq [(0, _, _), (3, _, _), (4, _, _), (5, _, _), (6, _, _)] (Za J (Za J (Za J (Za J (Za J (Zj _)))))) (Up (kq (Zr (Wb (rs := [.cell 4 26, .tmp 5, .cell 6 24]) (vs := [_, _, _]) J J (Yy J Zc J (E.g5.row) (Wg J (Yy J Zs J (E.g4.row) (Yf)))) J ?_))))
     have hm : (mthF ((ckT F (Zd t 0)).mem S).1.1.ty t.text).2.2 = false := by simpa using h4
     have e : calR F t (ckX F t) S = ((annT t [((ckT F (Zd t 0)).mem S).1.1] ty0, (mthF ((ckT F (Zd t 0)).mem S).1.1.ty t.text).1, (mthF ((ckT F (Zd t 0)).mem S).1.1.ty t.text).2.1), failU (mthF ((ckT F (Zd t 0)).mem S).1.1.ty t.text).2.2 t.pos 5 ((ckT F (Zd t 0)).mem S).2) := by
      unfold calR; rw [Yfg h1, x0, h2]
      show ((annT t [(rcvX t (ckX F t) S).1] ty0, (mthF (rcvX t (ckX F t) S).1.ty t.text).1, (mthF (rcvX t (ckX F t) S).1.ty t.text).2.1), failU (mthF (rcvX t (ckX F t) S).1.ty t.text).2.2 t.pos 5 (rcvX t (ckX F t) S).2) = _
      unfold rcvX; rw [x0, Yfg h3]; rfl
     rw [e, hm]; exact ⟨⟨_, _, rfl, Xz (t := annT t [_] ty0) rfl (Uk (ks := [_]) ⟨l55, Ug E.g1⟩ E.g1.row (Wp (k49.kdN q49)) (Nat.le_refl _)), hr62.row⟩, h, g⟩
    refine Yc (kq (Ze (Ud (rowR (some b4)) [0, 3, 0, 1, 3, 2] [0, 0, 0, 1, 11, 31] mix (by kernel_rfl) [0, 1, 2, 3, 4, 5] J ?_)))
    have g := gtd g
    replace E := E.dr
    have hr62 := hr62.grow (G.drew _)
    have h := h.grow (G.drew _)
    have k49 := k49.grow (G.drew _)
    refine Vk 0 J J (fun w1 hx => Xd Zc (Zk J) J (fun _ => (E.g2.keep hx (fun q => (E.ne 2 5 J J J) (by injection q))).row)) (Xc 1 J J (fun _ => Yl (Zk J)) (Vk 2 J J (fun w1 hx => Xd Zs (Zk J) J (fun _ => (E.g0.keep hx (fun q => (E.ne 0 5 J J J) (by injection q))).row)) (Xo 3 J J ?_)))
    refine Xg (L' := [4, 5]) [0, 3, 0, 2, 3, 2] J J J ?_
    refine Yt Zl J J J E.g5 ?_
    intro wS8 hgS8 _ BS
    have C4 := E.g5
    replace E := E.s5 hgS8 BS
    have g := Zy g hgS8 (by omega)
    first | have hr62 := hr62.keept hgS8 C4 rfl | have hr62 := hr62.keep hgS8 (by first | exact .inl (by omega) | simp)
    have h := h.keep hgS8 C4 rfl (by omega)
    have k49 := k49.keep hgS8 (by simp)
    refine Wa (hgS8) ?_
    refine Xc 4 J J (fun _ => Wy (Zk J)) (Xo 5 J J ?_)
    refine Wt (L' := []) [0, 3, 0, 2, 3, 2] J J J J ?_
    refine Yt Yn J J J E.g4 ?_
    intro wS9 hgS9 _ BS
    have C6 := E.g4
    replace E := E.s4 hgS9 BS
    have g := Zy g hgS9 (by omega)
    first | have hr62 := hr62.keept hgS9 C6 rfl | have hr62 := hr62.keep hgS9 (by first | exact .inl (by omega) | simp)
    have h := h.keep hgS9 C6 rfl (by omega)
    have k49 := k49.keep hgS9 (by simp)
    refine Vm ?_
    refine Uq [(0, _, _), (3, _, _), (4, _, _), (5, _, _), (6, _, _)] (Za J (Za J (Za J (Za J (Za J (Zj _)))))) (Up (kq (Zr (Wb (rs := [.cell 4 26, .tmp 5, .cell 6 24]) (vs := [_, _, _]) J J (Yy J Zc J (E.g5.row) (Wg J (Yy J Zs J (E.g4.row) (Yf)))) J ?_))))
    have hm : (mthF ((ckT F (Zd t 0)).mem S).1.1.ty t.text).2.2 = true := by simpa using h4
    have e : calR F t (ckX F t) S = ((annT t [((ckT F (Zd t 0)).mem S).1.1] ty0, (mthF ((ckT F (Zd t 0)).mem S).1.1.ty t.text).1, (mthF ((ckT F (Zd t 0)).mem S).1.1.ty t.text).2.1), failU (mthF ((ckT F (Zd t 0)).mem S).1.1.ty t.text).2.2 t.pos 5 ((ckT F (Zd t 0)).mem S).2) := by
     unfold calR; rw [Yfg h1, x0, h2]
     show ((annT t [(rcvX t (ckX F t) S).1] ty0, (mthF (rcvX t (ckX F t) S).1.ty t.text).1, (mthF (rcvX t (ckX F t) S).1.ty t.text).2.1), failU (mthF (rcvX t (ckX F t) S).1.ty t.text).2.2 t.pos 5 (rcvX t (ckX F t) S).2) = _
     unfold rcvX; rw [x0, Yfg h3]; rfl
    rw [e, hm]; exact ⟨⟨_, _, rfl, Xz (t := annT t [_] ty0) rfl (Uk (ks := [_]) ⟨l55, Ug E.g1⟩ E.g1.row (Wp (k49.kdN q49)) (Nat.le_refl _)), hr62.row⟩, h, g⟩
   replace h3 : (Zd t 0).kind ≠ 28 := of_decide_eq_false h3
   refine Yc (kq (Ze (Zg (Yk Zc J J E.g3.row (Ya J (Zo Vg Yo (aqc J aq0) J) (Uw t _ _ _) ?_)))))
   rintro v53 w53 ⟨rfl, g53⟩
   refine ⟨fun _ => g53, ?_⟩
   have g := gtg g g53
   replace E := E.grow g53
   have h := h.grow (g53)
   have k33 := k33.grow (g53)
   refine Yh J Zm J ?_
   intro b9 w9 N9
   have l9 := Xm N9 g.size
   have k33 := k33.new N9
   have g := gtg g N9.g
   have h := h.grow (N9.g)
   replace E := E.new N9
   refine Yt Zl J J J E.g0 ?_
   intro wS10 hgS10 _ BS
   have C9 := E.g0
   replace E := E.s0 hgS10 BS
   have g := Zy g hgS10 (by omega)
   have h := h.keep hgS10 C9 rfl (by omega)
   have k33 := k33.keep hgS10 (by simp)
   refine Zb (kq (Ze (Zg (Yk Zc J J E.g1.row (Yb _ J Zf Zm (pqc J pq0) J J ?_)))))
   intro b55 w55 N55
   have l55 := Xm N55 g.size
   have k33 := k33.new N55
   have g := gtg g N55.g
   have h := h.grow (N55.g)
   replace E := E.new N55
   refine Zx Zi J (Vz Xb J J J E.g1 ?_)
   intro wS11 hgS11 _ BS
   have C9 := E.g1
   replace E := E.s1 hgS11 BS
   have g := Zy g hgS11 (by omega)
   have h := h.keep hgS11 C9 rfl (by omega)
   have k33 := k33.keep hgS11 (by simp)
   refine Zb (kq (Ze (Zg (Zx Xa J (Yk Zs J J (E.g2.row.part 5 2) (Zx Ym J (Yg Yr J (E.g5.at_ J) (Ya J (Zo Uqb Yo (aqc J (aqc J aq0)) J) (Uxd _ _ [b3, b4, b6, b7, b9] (E.ltm (by simp [selB]))) ?_))))))))
   rintro v62 w62 ⟨⟨pp62, cp62, rfl, hr62⟩, g62⟩
   refine ⟨fun _ => g62, ?_⟩
   have g := gtg g g62
   replace E := E.grow g62
   have h := h.grow (g62)
   have k33 := k33.grow (g62)
   refine Zt J (Qc J J (Qc J J (Qc J J (Yh J Yq J ?_))))
   intro b11 w11 N11
   have l11 := Xm N11 g.size
   have hr62 := hr62.new N11
   have k33 := k33.new N11
   have g := gtg g N11.g
   have h := h.grow (N11.g)
   replace E := E.new N11
   refine Zp J (Yt Yn J J J E.g0 ?_)
   intro wS12 hgS12 _ BS
   have C11 := E.g0
   replace E := E.s0 hgS12 BS
   have g := Zy g hgS12 (by omega)
   first | have hr62 := hr62.keept hgS12 C11 rfl | have hr62 := hr62.keep hgS12 (by first | exact .inl (by omega) | simp)
   have h := h.keep hgS12 C11 rfl (by omega)
   have k33 := k33.keep hgS12 (by simp)
   refine Zp J (Zb (kq (Ze (Ze (Zg (Zt J (Wia J (Zb (kq (Yv J (fun h5 => ?_) (fun h5 => ?_)))))))))))
   ·(try simp only [Xq] at h5)
    refine Zg (Zt J (Zx Yw J (Yg Zu J (E.g6.at_ J) (Ya J (Zo Yz Yo (aqc J (aqc J (aqc J aq0))) J) (Vj t.pos 5 h) ?_))))
    rintro v71 w71 ⟨rfl, h, g71⟩
    refine ⟨nw1, ?_⟩
    have g := g.trans g71
    replace E := E.gt g71 rfl
    have hr62 := hr62.gt g71
    have k33 := k33.gt g71
    refine Zb (kq (Ze (Ud (rowR (some b4)) [0, 3, 0, 1, 3, 2] [0, 0, 0, 1, 11, 31] mix (by kernel_rfl) [0, 1, 2, 3, 4, 5] J ?_)))
    have g := gtd g
    replace E := E.dr
    have hr62 := hr62.grow (G.drew _)
    have h := h.grow (G.drew _)
    have k33 := k33.grow (G.drew _)
    refine Vk 0 J J (fun w1 hx => Xd Zc (Zk J) J (fun _ => (E.g2.keep hx (fun q => (E.ne 2 5 J J J) (by injection q))).row)) (Xc 1 J J (fun _ => Yl (Zk J)) (Vk 2 J J (fun w1 hx => Xd Zs (Zk J) J (fun _ => (E.g0.keep hx (fun q => (E.ne 0 5 J J J) (by injection q))).row)) (Xo 3 J J ?_)))
    refine Xg (L' := [4, 5]) [0, 3, 0, 2, 3, 2] J J J ?_
    refine Yt Zl J J J E.g5 ?_
    intro wS13 hgS13 _ BS
    have C4 := E.g5
    replace E := E.s5 hgS13 BS
    have g := Zy g hgS13 (by omega)
    first | have hr62 := hr62.keept hgS13 C4 rfl | have hr62 := hr62.keep hgS13 (by first | exact .inl (by omega) | simp)
    have h := h.keep hgS13 C4 rfl (by omega)
    have k33 := k33.keep hgS13 (by simp)
    refine Wa (hgS13) ?_
    refine Xc 4 J J (fun _ => Wy (Zk J)) (Xo 5 J J ?_)
    refine Wt (L' := []) [0, 3, 0, 2, 3, 2] J J J J ?_
    refine Yt Yn J J J E.g4 ?_
    intro wS14 hgS14 _ BS
    have C6 := E.g4
    replace E := E.s4 hgS14 BS
    have g := Zy g hgS14 (by omega)
    first | have hr62 := hr62.keept hgS14 C6 rfl | have hr62 := hr62.keep hgS14 (by first | exact .inl (by omega) | simp)
    have h := h.keep hgS14 C6 rfl (by omega)
    have k33 := k33.keep hgS14 (by simp)
    refine Vm ?_
    refine Uq [(0, _, _), (3, _, _), (4, _, _), (5, _, _), (6, _, _)] (Za J (Za J (Za J (Za J (Za J (Zj _)))))) (Up (kq (Zr (Wb (rs := [.cell 4 26, .tmp 5, .cell 6 24]) (vs := [_, _, _]) J J (Yy J Zc J (E.g5.row) (Wg J (Yy J Zs J (E.g4.row) (Yf)))) J ?_))))
    have hm : (mthF ((ckT F (Zd t 0)).rcv S).1.ty t.text).2.2 = false := by simpa using h5
    have e : calR F t (ckX F t) S = ((annT t [((ckT F (Zd t 0)).rcv S).1] ty0, (mthF ((ckT F (Zd t 0)).rcv S).1.ty t.text).1, (mthF ((ckT F (Zd t 0)).rcv S).1.ty t.text).2.1), failU (mthF ((ckT F (Zd t 0)).rcv S).1.ty t.text).2.2 t.pos 5 S) := by
     unfold calR; rw [Yfg h1, x0, h2]
     show ((annT t [(rcvX t (ckX F t) S).1] ty0, (mthF (rcvX t (ckX F t) S).1.ty t.text).1, (mthF (rcvX t (ckX F t) S).1.ty t.text).2.1), failU (mthF (rcvX t (ckX F t) S).1.ty t.text).2.2 t.pos 5 (rcvX t (ckX F t) S).2) = _
     unfold rcvX; rw [x0, Yeg h3]; rfl
    rw [e, hm]; exact ⟨⟨_, _, rfl, Xz (t := annT t [_] ty0) rfl (Uk (ks := [_]) ⟨l55, Ug E.g1⟩ E.g1.row (Wp (k33.kdN q33)) (Nat.le_refl _)), hr62.row⟩, h, g⟩
   refine Yc (kq (Ze (Ud (rowR (some b4)) [0, 3, 0, 1, 3, 2] [0, 0, 0, 1, 11, 31] mix (by kernel_rfl) [0, 1, 2, 3, 4, 5] J ?_)))
   have g := gtd g
   replace E := E.dr
   have hr62 := hr62.grow (G.drew _)
   have h := h.grow (G.drew _)
   have k33 := k33.grow (G.drew _)
   refine Vk 0 J J (fun w1 hx => Xd Zc (Zk J) J (fun _ => (E.g2.keep hx (fun q => (E.ne 2 5 J J J) (by injection q))).row)) (Xc 1 J J (fun _ => Yl (Zk J)) (Vk 2 J J (fun w1 hx => Xd Zs (Zk J) J (fun _ => (E.g0.keep hx (fun q => (E.ne 0 5 J J J) (by injection q))).row)) (Xo 3 J J ?_)))
   refine Xg (L' := [4, 5]) [0, 3, 0, 2, 3, 2] J J J ?_
   refine Yt Zl J J J E.g5 ?_
   intro wS15 hgS15 _ BS
   have C4 := E.g5
   replace E := E.s5 hgS15 BS
   have g := Zy g hgS15 (by omega)
   first | have hr62 := hr62.keept hgS15 C4 rfl | have hr62 := hr62.keep hgS15 (by first | exact .inl (by omega) | simp)
   have h := h.keep hgS15 C4 rfl (by omega)
   have k33 := k33.keep hgS15 (by simp)
   refine Wa (hgS15) ?_
   refine Xc 4 J J (fun _ => Wy (Zk J)) (Xo 5 J J ?_)
   refine Wt (L' := []) [0, 3, 0, 2, 3, 2] J J J J ?_
   refine Yt Yn J J J E.g4 ?_
   intro wS16 hgS16 _ BS
   have C6 := E.g4
   replace E := E.s4 hgS16 BS
   have g := Zy g hgS16 (by omega)
   first | have hr62 := hr62.keept hgS16 C6 rfl | have hr62 := hr62.keep hgS16 (by first | exact .inl (by omega) | simp)
   have h := h.keep hgS16 C6 rfl (by omega)
   have k33 := k33.keep hgS16 (by simp)
   refine Vm ?_
   refine Uq [(0, _, _), (3, _, _), (4, _, _), (5, _, _), (6, _, _)] (Za J (Za J (Za J (Za J (Za J (Zj _)))))) (Up (kq (Zr (Wb (rs := [.cell 4 26, .tmp 5, .cell 6 24]) (vs := [_, _, _]) J J (Yy J Zc J (E.g5.row) (Wg J (Yy J Zs J (E.g4.row) (Yf)))) J ?_))))
   have hm : (mthF ((ckT F (Zd t 0)).rcv S).1.ty t.text).2.2 = true := by simpa using h5
   have e : calR F t (ckX F t) S = ((annT t [((ckT F (Zd t 0)).rcv S).1] ty0, (mthF ((ckT F (Zd t 0)).rcv S).1.ty t.text).1, (mthF ((ckT F (Zd t 0)).rcv S).1.ty t.text).2.1), failU (mthF ((ckT F (Zd t 0)).rcv S).1.ty t.text).2.2 t.pos 5 S) := by
    unfold calR; rw [Yfg h1, x0, h2]
    show ((annT t [(rcvX t (ckX F t) S).1] ty0, (mthF (rcvX t (ckX F t) S).1.ty t.text).1, (mthF (rcvX t (ckX F t) S).1.ty t.text).2.1), failU (mthF (rcvX t (ckX F t) S).1.ty t.text).2.2 t.pos 5 (rcvX t (ckX F t) S).2) = _
    unfold rcvX; rw [x0, Yeg h3]; rfl
   rw [e, hm]; exact ⟨⟨_, _, rfl, Xz (t := annT t [_] ty0) rfl (Uk (ks := [_]) ⟨l55, Ug E.g1⟩ E.g1.row (Wp (k33.kdN q33)) (Nat.le_refl _)), hr62.row⟩, h, g⟩
  refine Yc (kq (Ze (Ze (Zg (Zx Yd J (Yg Zu J (E.g3.at_ J) (Xt J J (Zb (kq (Yv J (fun h6 => ?_) (fun h6 => ?_)))))))))))
  ·exfalso; have := of_decide_eq_true h6; omega
   done
  have h27 : t.kind ≠ 27 := by omega
  have hcal : (decide (t.kind = 28) && ((ckX F t 0).rcv S).2) = false := by rw [x0, h2, Bool.and_false]
  refine Yc (kq (Ze (Zg (Zt J (Yk Zc J J E.g3.row (Ya J (Zo Wn Yo (aqc J (aqc J aq0)) J) (CkC.to (HX) [b3, b4, b6] h hk0 hb hcn (E.ltm (by simp [selB])) g.size) ?_))))))
  rintro v142 w142 ⟨⟨p142, c142, rfl, q142, k142⟩, h, g142⟩
  refine ⟨nw1, ?_⟩
  have g := g.trans g142
  replace E := E.gt g142 rfl
  refine Yh J Zm J ?_
  intro b23 w23 N23
  have l23 := Xm N23 g.size
  have k142 := k142.new N23
  have g := gtg g N23.g
  have h := h.grow (N23.g)
  replace E := E.new N23
  refine Yt Zl J J J E.g0 ?_
  intro wS17 hgS17 _ BS
  have C23 := E.g0
  replace E := E.s0 hgS17 BS
  have g := Zy g hgS17 (by omega)
  have h := h.keep hgS17 C23 rfl (by omega)
  have k142 := k142.keep hgS17 (by simp)
  refine Zb (kq (Ze (Ze (Zg (Zx Xa J (Yk Zs J J (E.g0.row.part 5 2) (Uc Yq Xv (pqc J pq0) J J (Yi J (fun _ => Wac Uz (Zk J) (Zk J) J) (Zb (kq (Yv J (fun h7 => ?_) (fun h7 => ?_))))))))))))
  ·have hy : tyEqB ((ckT F t).ex S).1.ty tFunc = false := by have q : (!tyEqB ((ckT F t).ex S).1.ty tFunc) = true := h7; rw [Bool.not_eq_true'] at q; exact q
   refine Zg (Zt J (Zx Yw J (Yg Zu J (E.g4.at_ J) (Ya J (Zo Yz Yo (aqc J (aqc J (aqc J aq0))) J) (Vj t.pos 7 h) ?_))))
   rintro v150 w150 ⟨rfl, h, g150⟩
   refine ⟨nw1, ?_⟩
   have g := g.trans g150
   replace E := E.gt g150 rfl
   have k142 := k142.gt g150
   refine Zb (kq (Ze (Zg (Yk Zc J J E.g0.row (Uc Yq Xv pq0 J J (Yt Zl J J J E.g3 ?_))))))
   intro wS18 hgS18 _ BS
   have C4 := E.g3
   replace E := E.s3 hgS18 BS
   have g := Zy g hgS18 (by omega)
   have h := h.keep hgS18 C4 rfl (by omega)
   have k142 := k142.keep hgS18 (by simp)
   refine Zp J (Yt Yn J J J E.g2 ?_)
   intro wS19 hgS19 _ BS
   have C6 := E.g2
   replace E := E.s2 hgS19 BS
   have g := Zy g hgS19 (by omega)
   have h := h.keep hgS19 C6 rfl (by omega)
   have k142 := k142.keep hgS19 (by simp)
   refine Zb (kq (Zr (Wb (rs := [.cell 4 26, .tmp 5, .cell 6 24]) (vs := [_, _, _]) J J (Yy J Zc J (E.g3.row) (Wg J (Yy J Zs J (E.g2.row) (Yf)))) J ?_)))
   have e : calR F t (ckX F t) S = ((((ckT F t).ex S).1, [], ty0), failU (tyEqB ((ckT F t).ex S).1.ty tFunc) t.pos 7 ((ckT F t).ex S).2) := by
    rw [ex0]; unfold calR; rw [hcal, Yeg h27]; rfl
   rw [e, hy]; exact ⟨⟨_, _, rfl, Xz rfl (k142.kdN q142), Ji (lo := 0) (X := []) |>.row⟩, h, g⟩
  have hy : tyEqB ((ckT F t).ex S).1.ty tFunc = true := by have q : (!tyEqB ((ckT F t).ex S).1.ty tFunc) = false := h7; rw [Bool.not_eq_false'] at q; exact q
  refine Yc (kq (Ze (Zg (Yk Zc J J E.g0.row (Uc Yq Xv pq0 J J (Yt Zl J J J E.g3 ?_))))))
  intro wS20 hgS20 _ BS
  have C4 := E.g3
  replace E := E.s3 hgS20 BS
  have g := Zy g hgS20 (by omega)
  have h := h.keep hgS20 C4 rfl (by omega)
  have k142 := k142.keep hgS20 (by simp)
  refine Zp J (Yt Yn J J J E.g2 ?_)
  intro wS21 hgS21 _ BS
  have C6 := E.g2
  replace E := E.s2 hgS21 BS
  have g := Zy g hgS21 (by omega)
  have h := h.keep hgS21 C6 rfl (by omega)
  have k142 := k142.keep hgS21 (by simp)
  refine Zb (kq (Zr (Wb (rs := [.cell 4 26, .tmp 5, .cell 6 24]) (vs := [_, _, _]) J J (Yy J Zc J (E.g3.row) (Wg J (Yy J Zs J (E.g2.row) (Yf)))) J ?_)))
  have e : calR F t (ckX F t) S = ((((ckT F t).ex S).1, [], ty0), failU (tyEqB ((ckT F t).ex S).1.ty tFunc) t.pos 7 ((ckT F t).ex S).2) := by
   rw [ex0]; unfold calR; rw [hcal, Yeg h27]; rfl
  rw [e, hy]; exact ⟨⟨_, _, rfl, Xz rfl (k142.kdN q142), Ji (lo := 0) (X := []) |>.row⟩, h, g⟩
 replace h1 : t.kind ≠ 28 := of_decide_eq_false h1
 refine Yc (kq (Ze (Ze (Zg (Zx Yd J (Yg Zu J (E.g2.at_ J) (Xt J J (Zb (kq (Yv J (fun h8 => ?_) (fun h8 => ?_)))))))))))
 ·replace h8 : t.kind = 27 := of_decide_eq_true h8
  refine Ze (Zg (Zt J (Yk Zc J J E.g2.row (Ya J (Zo Yva Yo (aqc J (aqc J aq0)) J) (Qgb H t _ _ h hb (by omega)) ?_))))
  rintro v81 w81 ⟨rfl, g81⟩
  refine ⟨fun _ => g81, ?_⟩
  have g := gtg g g81
  replace E := E.grow g81
  have h := h.grow (g81)
  have hk0 := hk0.grow (g81)
  refine Zt J (Qc J J (Qc J J (Yh J Zm J ?_)))
  intro b13 w13 N13
  have l13 := Xm N13 g.size
  have g := gtg g N13.g
  have h := h.grow (N13.g)
  have hk0 := hk0.grow (N13.g)
  replace E := E.new N13
  refine Yt Zl J J J E.g0 ?_
  intro wS22 hgS22 _ BS
  have C13 := E.g0
  replace E := E.s0 hgS22 BS
  have g := Zy g hgS22 (by omega)
  have h := h.keep hgS22 C13 rfl (by omega)
  have hk0 := hk0.keep hgS22 (fun k hk _ e => by injection e with e; omega)
  refine Zp J (Zb (kq (Ze (Zg (Zt J (Zt J (Zn J J J (fun _ => Zv Uj (Zk J)) (Yj J J J (Ye Zu (Zq J id) (fun _ => E.g0.at_ J)) (Zn J J J (fun _ => Vt (Zq J id) Xy) (Yi J (fun _ => Zz (Zk J) (Zq J id)) (Zb (kq (Yv J (fun h9 => ?_) (fun h9 => ?_))))))))))))))
  ·have h4 := Uje h9
   obtain ⟨fv, sv, sn, h⟩ := h
   have hl4 := H.l4 h4
   have hlp := H.lp h4
   have hFc := h.hF
   have hdm : count (findD F 4 t.text).1 < count F := Zma (Wta _ _ h4).1
   have hkd := Zqa (t := (findD F 4 t.text).1) (i := 0) (by omega)
   have hkl := Qt (Zd (findD F 4 t.text).1 0)
   refine Ze (Ud (rowR none) [3, 3, 3, 0, 3, 0, 1, 3, 3, 3, 1, 2, 3] [0, 1, 3, 7, 0, 16, 63, 127, 255, 255, 0, 1535, 4095] mix (by kernel_rfl) [0, 1, 2, 3, 4, 5, 6, 7, 8, 9, 10, 11, 12] J ?_)
   have g := gtd g
   replace E := E.dr
   have h := h.grow (G.drew _)
   refine Xc 0 J J (fun _ => Yl (Zk J)) (Xc 1 J J (fun _ => Jl (Zk J)) (Xc 2 J J (fun _ => Zv Vw (Zk J)) (Vk 3 J J (fun w1 hx => Xd Zc (Zk J) J (fun _ => (h.B.keep hx (by intro q; first | (injection q with q; omega) | cases q)).row.part 0 9)) (Xc 4 J J (fun _ => Zv Ym (Zk J)) (Vk 5 J J (fun w1 hx => Ye Yr (Zk J) (fun _ => (E.g3.keep hx (fun h => nomatch h)).at_ J)) (Xwa 6 10 J J ?_ ?_))))))
   ·refine Xg (L' := [7, 8, 9, 10, 11, 12]) [3, 3, 3, 0, 3, 0, 1, 3, 3, 3, 1, 2, 3] J J J ?_
    refine Ya J (Zo Qy Yo (aqc J (aqc J (aqc J aq0))) J) (Yca F fv _ _ 4 t.text h.kF h.hF) ?_
    rintro v97 w97 ⟨⟨p97, c97, rfl, hk97⟩, g97⟩
    refine ⟨fun _ => g97, ?_⟩
    have g := gtg g g97
    replace E := E.grow g97
    have h := h.grow (g97)
    obtain ⟨m1, hm1⟩ : ∃ m, m = w97.heap.size := ⟨_, rfl⟩
    have hm3 : b3 < m1 := by rw [hm1]; exact E.g3.lt
    have hm4 : b4 < m1 := by rw [hm1]; exact E.g2.lt
    have hm6 : b6 < m1 := by rw [hm1]; exact E.g1.lt
    have hm13 : b13 < m1 := by rw [hm1]; exact E.g0.lt
    have hm0 : w.heap.size ≤ m1 := by rw [hm1]; exact g.size
    have hmu : m1 ≤ w97.heap.size := Nat.le_of_eq hm1
    refine Wa ((g97).only _) ?_
    refine Xc 7 J J (fun _ => Yl (Zk J)) (Xc 8 J J (fun _ => Vf (Zk J) J) (Xc 9 J J (fun _ => Vf (Zk J) J) (Xo 10 J J ?_)))
    refine Xg (L' := [11, 12]) [3, 3, 3, 0, 3, 0, 1, 3, 3, 3, 1, 2, 3] J J J ?_
    refine Yh J Zm J ?_
    intro b15 w15 N15
    have l15 := Xm N15 g.size
    have g := gtg g N15.g
    have hk97 := hk97.grow (N15.g)
    have hmu := Nat.le_trans hmu ((N15.g)).size
    have h := h.grow (N15.g)
    replace E := E.new N15
    refine Wa ((N15.g).only _) ?_
    refine Xo 11 J J ?_
    refine Wt (L' := [12]) [3, 3, 3, 0, 3, 0, 1, 3, 3, 3, 1, 2, 3] J J J J ?_
    refine Yt Zl J J J E.g0 ?_
    intro wS23 hgS23 _ BS
    have C15 := E.g0
    replace E := E.s0 hgS23 BS
    have g := Zy g hgS23 (by omega)
    have hk97 := hk97.keep hgS23 (fun k hk _ e => by injection e with e; omega)
    have hmu := Nat.le_trans hmu hgS23.size
    have h := h.keep hgS23 C15 rfl (by omega)
    refine Vm ?_
    refine Xc 12 J J (fun _ => Wy (Zk J)) (Uq [(0, _, _), (3, _, _), (4, _, _), (5, _, _), (6, _, _), (13, _, _), (15, _, _)] (Za J (Za J (Za J (Za J (Za J (Za J (Za J (Zj _)))))))) (Up (kq (Ze (Zg (Zp J (Zb (kq (Ze (Ze (Zg (Zp J (Zb (kq (Yu (?_))))))))))))))))
    have hnd1 := E.1
    refine Jy (fun (x : Nat × Option Addr × Nat) u1 => match x with | ⟨i, a, ca⟩ => (i ≤ (Zd (findD F 4 t.text).1 0).kids.length ∧ CK F n0 b S fv sv sn u1 ∧ Kd u1 (fun k => k < n0) (findD F 4 t.text).1.kids (.slice p97 (findD F 4 t.text).1.kids.length c97) ∧ u1.ownsRow m1 Jj 2 (.slice a i ca) i ((((Zd (findD F 4 t.text).1 0).kids.map fun p => (ofF (Zd p 0)).1).take i).flatMap tyCells) ∧ m1 ≤ u1.heap.size) ∧ GT mutR n0 w u1) _ [(0, True, _), (3, True, _), (4, True, _), (5, True, _), (6, True, _), (13, True, _), (15, True, _)] (fun (x : Nat × Option Addr × Nat) => match x with | ⟨i, a, ca⟩ => [(17, True, .slice a i ca), (18, True, .int .i64 i)]) (fun (x : Nat × Option Addr × Nat) => match x with | ⟨i, a, ca⟩ => (Zd (findD F 4 t.text).1 0).kids.length - i) ((0, none, 0)) ⟨⟨Nat.zero_le _, h, hk97, Wna _ _ _ _, hmu⟩, g⟩ (Xr (blkE E.g4) (Xr (blkE E.g3) (Xr (blkE E.g2) (Xr (blkE E.g1) (Xr (blkE E.g0) (Ua _)))))) (Za J (Za J (Za J (Za J (Za J (Za J (Za J (Za J (Za J (Zj _)))))))))) ?_
    clear E
    rintro ⟨i, a, ca⟩ u1 ⟨hI1, gl1⟩ ⟨B3, B4, B6, B13, B15, _⟩
    replace B3 : Blk _ _ _ _ := B3
    replace B4 : Blk _ _ _ _ := B4
    replace B6 : Blk _ _ _ _ := B6
    replace B13 : Blk _ _ _ _ := B13
    replace B15 : Blk _ _ _ _ := B15
    have g := gl1
    obtain ⟨hi, h, hk97, ov, hmu⟩ := hI1
    obtain ⟨e0, p0, c0, hcell0, hkid0⟩ := Xs hk97 (i := 0) (by omega)
    have E := Uwa (L := [(b15, _, _), (b13, _, _), (b6, _, _), (b4, _, _), (b3, _, _)]) hnd1 ⟨B15, B13, B6, B4, B3, trivial⟩ rfl
    refine Ze (Ze (Zg (Zt J (Zx Zi J (Yg Zh J (E.g0.at_ J) (Ve Zf J J (by omega) e0 (Zx Zi J (Yg Zh J (hcell0.one (i := 4) J) (Qu Zf J (Zfa J J (Zb (kq (Yv J (fun h10 => ?_) (fun h10 => ?_))))))))))))))
    ·replace h10 : i < (Zd (findD F 4 t.text).1 0).kids.length := by simp only [decide_eq_true_eq] at h10; omega
     obtain ⟨e1, p1, c1, hcell1, hkid1⟩ := Xs hkid0 (i := i) h10
     have hfl := hlp _ (List.getElem_mem h10)
     rw [← Wm h10] at hfl
     obtain ⟨e2, p2, c2, hcell2, hkid2⟩ := Xs hkid1 (i := 0) (by omega)
     refine Yc (kq (Ze (Yu (Ze (Zg (Zx Zi J (Yg Zh J (E.g0.at_ J) (Ve Zf J J (by omega) e0 (Zx Zi J (Yg Zh J (hcell0.one (i := 4) J) (Zt J (Ve Zf J J (by omega) e1 (Zx Zi J (Yg Zh J (hcell1.one (i := 4) J) (Ve Zf J J (by omega) e2 (Yk Zc J J hcell2 (?_)))))))))))))))))
     refine Xk J (Zo Xfa Yo (aqc J aq0) J) (Yrb (Zd (Zd (Zd (findD F 4 t.text).1 0) i) 0) _ _ _) (fun w122 g122 => ?_)
     have g := gtg g g122
     replace E := E.grow g122
     have hk97 := hk97.grow (g122)
     have ov := Us ov (g122)
     have hmu := Nat.le_trans hmu ((g122)).size
     have h := h.grow (g122)
     refine Zt J (Qc J J (Qc J J (Yh J Yq J ?_)))
     intro b19 w19 N19
     have l19 := Xm N19 g.size
     have z19 := fun k hk => Nat.ne_of_lt (Nat.lt_of_lt_of_eq (ov.lt k hk).2 N19.at_.symm)
     have g := gtg g N19.g
     have hk97 := hk97.grow (N19.g)
     have ov := Us ov (N19.g)
     have hmu := Nat.le_trans hmu ((N19.g)).size
     have h := h.grow (N19.g)
     replace E := E.new N19
     refine Yt Yn J J J E.g0 ?_
     intro wS24 hgS24 _ BS
     have C19 := E.g0
     replace E := E.s0 hgS24 BS
     have g := Zy g hgS24 (by omega)
     have hk97 := hk97.keep hgS24 (fun k hk _ e => by injection e with e; omega)
     have hmu := Nat.le_trans hmu hgS24.size
     have ov := Vy ov hgS24 (.inr (fun q => z19 _ q rfl))
     have h := h.keep hgS24 C19 rfl (by omega)
     refine Zp J (Zb (kq (Zg (Zt J (Yk Zs J J E.g0.row (Yb _ J Un Yq (pqc J pq0) J J ?_))))))
     intro b127 w127 N127
     have l127 := Xm N127 g.size
     have z127 := fun k hk => Nat.ne_of_lt (Nat.lt_of_lt_of_eq (ov.lt k hk).2 N127.at_.symm)
     have g := gtg g N127.g
     have hk97 := hk97.grow (N127.g)
     have ov := Us ov (N127.g)
     have hmu := Nat.le_trans hmu ((N127.g)).size
     have h := h.grow (N127.g)
     replace E := E.new N127
     refine Ysa J Un Yq J (by decide) (Zk J) ov (Zk J) J N127.blk.row J (by simp only [maxLen]; omega) (by omega) hmu ?_
     intro a2 ca2 w128 ov2 hg128 hat128
     have hob := fun k hk => (ov.lt k hk).1
     have hmu := Nat.le_trans hmu hg128.size
     have g := Qj g hg128 (fun k hk => by have := hob k hk; omega)
     replace E := E.keep hg128 (List.forall_mem_cons.2 ⟨((fun q => z127 _ q.symm rfl)), List.forall_mem_cons.2 ⟨((fun q => z19 _ q.symm rfl)), List.forall_mem_cons.2 ⟨((fun q => Vba ov E.g2 rfl q.symm)), List.forall_mem_cons.2 ⟨((fun q => by have := hob _ q.symm; omega)), List.forall_mem_cons.2 ⟨((fun q => by have := hob _ q.symm; omega)), List.forall_mem_cons.2 ⟨((fun q => by have := hob _ q.symm; omega)), List.forall_mem_cons.2 ⟨((fun q => by have := hob _ q.symm; omega)), List.forall_mem_nil _⟩⟩⟩⟩⟩⟩⟩)
     have h := h.keepr hg128 (fun k hk => ⟨by have := hob k hk; omega, fun hT => Uyd ov k hk hT⟩)
     have hk97 := hk97.keep hg128 (fun k hk _ e => by have := hob k e.symm; omega)
     have hfm : (((Zd (findD F 4 t.text).1 0).kids.map fun p => (ofF (Zd p 0)).1).take i).flatMap tyCells ++ tyCells (ofF (Zd (Zd (Zd (findD F 4 t.text).1 0) i) 0)).1 = (((Zd (findD F 4 t.text).1 0).kids.map fun p => (ofF (Zd p 0)).1).take (i + 1)).flatMap tyCells := by
      rw [List.take_succ_eq_append_getElem (show i < ((Zd (findD F 4 t.text).1 0).kids.map fun p => (ofF (Zd p 0)).1).length by rw [List.length_map]; exact h10), List.flatMap_append, List.getElem_map, ← Wm h10]; simp
     have ov2 : w128.ownsRow m1 Jj 2 (.slice a2 (i + 1) ca2) (i + 1) ((((Zd (findD F 4 t.text).1 0).kids.map fun p => (ofF (Zd p 0)).1).take (i + 1)).flatMap tyCells) := hfm ▸ ov2
     refine Zp J (Zb (kq (Zg (Zt J (Qv J J (by omega) (Zp J (Wh [(17, _, _), (18, _, _), (0, _, _), (3, _, _), (4, _, _), (5, _, _), (6, _, _), (13, _, _), (15, _, _)] (Za J (Za J (Za J (Za J (Za J (Za J (Za J (Za J (Za J (Zj _)))))))))) (Zb (fun a ha => ?_)))))))))
     exact ⟨(i + 1, a2, ca2), ha, ⟨⟨h10, h, hk97, ov2, hmu⟩, g⟩, (Xr (blkE E.g6) (Xr (blkE E.g5) (Xr (blkE E.g4) (Xr (blkE E.g3) (Xr (blkE E.g2) (Ua _)))))), by show _ - (i + 1) < _ - i; omega⟩
    replace h10 : i = (Zd (findD F 4 t.text).1 0).kids.length := by simp only [decide_eq_false_iff_not] at h10; omega
    subst h10
    refine Vq J (kq (Ze (Zg (?_))))
    obtain ⟨e1, p1, c1, hcell1, hkid1⟩ := Xs hk97 (i := 1) (by omega)
    have hlL : (Zd (findD F 4 t.text).1 0).kids.length = ((Zd (findD F 4 t.text).1 0).kids.map fun p => (ofF (Zd p 0)).1).length := by rw [List.length_map]
    have hr62 : RowX m1 [] _ ((Zd (findD F 4 t.text).1 0).kids.map fun p => (ofF (Zd p 0)).1) (.slice a ((Zd (findD F 4 t.text).1 0).kids.map fun p => (ofF (Zd p 0)).1).length ca) := Uwd (by have q := ov; rw [show (Zd (findD F 4 t.text).1 0).kids.length = ((Zd (findD F 4 t.text).1 0).kids.map fun p => (ofF (Zd p 0)).1).length by rw [List.length_map], List.take_length] at q; exact q)
    refine Zx Zi J (Yg Zh J (E.g0.at_ J) (Ve Zf J J (by omega) e1 (Yk Zc J J hcell1 (Xk J (Zo Xfa Yo (aqc J aq0) J) (Yrb (Zd (findD F 4 t.text).1 1) _ _ _) (fun w134 g134 => ?_)))))
    have g := gtg g g134
    replace E := E.grow g134
    have hr62 := hr62.grow (g134)
    have ov := Us ov (g134)
    have hmu := Nat.le_trans hmu ((g134)).size
    have h := h.grow (g134)
    refine Zt J (Qc J J (Qc J J (Yh J Yq J ?_)))
    intro b21 w21 N21
    have l21 := Xm N21 g.size
    have hr62 := hr62.new N21
    have z21 := fun k hk => Nat.ne_of_lt (Nat.lt_of_lt_of_eq (ov.lt k hk).2 N21.at_.symm)
    have g := gtg g N21.g
    have ov := Us ov (N21.g)
    have hmu := Nat.le_trans hmu ((N21.g)).size
    have h := h.grow (N21.g)
    replace E := E.new N21
    refine Yt Yn J J J E.g0 ?_
    intro wS25 hgS25 _ BS
    have C21 := E.g0
    replace E := E.s0 hgS25 BS
    have g := Zy g hgS25 (by omega)
    first | have hr62 := hr62.keept hgS25 C21 rfl | have hr62 := hr62.keep hgS25 (by first | exact .inl (by omega) | simp)
    have hmu := Nat.le_trans hmu hgS25.size
    have ov := Vy ov hgS25 (.inr (fun q => z21 _ q rfl))
    have h := h.keep hgS25 C21 rfl (by omega)
    refine Zp J (Zb (kq (Ze (Ud (rowR (some b4)) [0, 3, 0, 1, 3, 2] [0, 0, 0, 1, 11, 31] mix (by kernel_rfl) [0, 1, 2, 3, 4, 5] J ?_))))
    have g := gtd g
    replace E := E.dr
    have hr62 := hr62.grow (G.drew _)
    have ov := Us ov (G.drew _)
    have hmu := Nat.le_trans hmu ((G.drew _)).size
    have h := h.grow (G.drew _)
    refine Vk 0 J J (fun w1 hx => Xd Zc (Zk J) J (fun _ => (E.g2.keep hx (fun h => E.ne 2 4 J J J (Option.some.inj h))).row)) (Xc 1 J J (fun _ => Yl (Zk J)) (Vk 2 J J (fun w1 hx => Xd Zs (Zk J) J (fun _ => (E.g0.keep hx (fun h => E.ne 0 4 J J J (Option.some.inj h))).row)) (Xo 3 J J ?_)))
    refine Xg (L' := [4, 5]) [0, 3, 0, 2, 3, 2] J J J ?_
    refine Yt Zl J J J E.g4 ?_
    intro wS26 hgS26 _ BS
    have C4 := E.g4
    replace E := E.s4 hgS26 BS
    have g := Zy g hgS26 (by omega)
    first | have hr62 := hr62.keept hgS26 C4 rfl | have hr62 := hr62.keep hgS26 (by first | exact .inl (by omega) | simp)
    have hmu := Nat.le_trans hmu hgS26.size
    have h := h.keep hgS26 C4 rfl (by omega)
    refine Wa (hgS26) ?_
    refine Xc 4 J J (fun _ => Wy (Zk J)) (Xo 5 J J ?_)
    refine Wt (L' := []) [0, 3, 0, 2, 3, 2] J J J J ?_
    refine Yt Yn J J J E.g3 ?_
    intro wS27 hgS27 _ BS
    have C6 := E.g3
    replace E := E.s3 hgS27 BS
    have g := Zy g hgS27 (by omega)
    first | have hr62 := hr62.keept hgS27 C6 rfl | have hr62 := hr62.keep hgS27 (by first | exact .inl (by omega) | simp)
    have hmu := Nat.le_trans hmu hgS27.size
    have h := h.keep hgS27 C6 rfl (by omega)
    refine Vm ?_
    refine Uq [(0, _, _), (3, _, _), (4, _, _), (5, _, _), (6, _, _), (13, _, _), (15, _, _), (17, _, _), (21, _, _), (129, _, _), (130, _, _), (131, _, _), (132, _, _), (133, _, _), (134, _, _), (135, _, _), (136, _, _), (137, _, _), (138, _, _), (139, _, _)] (Za J (Za J (Za J (Za J (Za J (Za J (Za J (Za J (Za J (Za J (Za J (Za J (Za J (Za J (Za J (Za J (Za J (Za J (Za J (Za J (Zj _))))))))))))))))))))) (Up (kq (Zr (Wb (rs := [.cell 4 26, .tmp 5, .cell 6 24]) (vs := [_, _, _]) J J (Yy J Zc J (E.g4.row) (Wg J (Yy J Zs J (E.g3.row) (Yf)))) J ?_))))
    have e : calR F t (ckX F t) S = (((lookR F S t).1, ((Zd (findD F 4 t.text).1 0).kids.map fun p => (ofF (Zd p 0)).1), (ofF (Zd (findD F 4 t.text).1 1)).1), S) := by
     unfold calR; rw [Yeg h1, Yfg h8, h9]; rfl
    rw [e]; exact ⟨⟨_, _, rfl, Xz (t := (lookR F S t).1) rfl (lookN _ _), by have q := hr62.row; rw [← hlL] at q; exact q⟩, h.chk, g⟩
   ·refine Xg (L' := [6, 7, 8, 9, 11, 12]) [3, 3, 3, 0, 3, 0, 1, 3, 3, 3, 1, 2, 3] J J J ?_
    refine Yh J Zm J ?_
    intro b15 w15 N15
    have l15 := Xm N15 g.size
    have g := gtg g N15.g
    have h := h.grow (N15.g)
    replace E := E.new N15
    refine Wa ((N15.g).only _) ?_
    refine Xo 6 J J ?_
    refine Xg (L' := [7, 8, 9, 11, 12]) [3, 3, 3, 0, 3, 0, 1, 3, 3, 3, 1, 2, 3] J J J ?_
    refine Ya J (Zo Qy Yo (aqc J (aqc J (aqc J aq0))) J) (Yca F fv _ _ 4 t.text h.kF h.hF) ?_
    rintro v97 w97 ⟨⟨p97, c97, rfl, hk97⟩, g97⟩
    refine ⟨fun _ => g97, ?_⟩
    have g := gtg g g97
    replace E := E.grow g97
    have h := h.grow (g97)
    obtain ⟨m1, hm1⟩ : ∃ m, m = w97.heap.size := ⟨_, rfl⟩
    have hm3 : b3 < m1 := by rw [hm1]; exact E.g4.lt
    have hm4 : b4 < m1 := by rw [hm1]; exact E.g3.lt
    have hm6 : b6 < m1 := by rw [hm1]; exact E.g2.lt
    have hm13 : b13 < m1 := by rw [hm1]; exact E.g1.lt
    have hm0 : w.heap.size ≤ m1 := by rw [hm1]; exact g.size
    have hmu : m1 ≤ w97.heap.size := Nat.le_of_eq hm1
    refine Wa ((g97).only _) ?_
    refine Xc 7 J J (fun _ => Yl (Zk J)) (Xc 8 J J (fun _ => Vf (Zk J) J) (Xc 9 J J (fun _ => Vf (Zk J) J) (Xo 11 J J ?_)))
    refine Wt (L' := [12]) [3, 3, 3, 0, 3, 0, 1, 3, 3, 3, 1, 2, 3] J J J J ?_
    refine Yt Zl J J J E.g0 ?_
    intro wS23 hgS23 _ BS
    have C15 := E.g0
    replace E := E.s0 hgS23 BS
    have g := Zy g hgS23 (by omega)
    have hk97 := hk97.keep hgS23 (fun k hk _ e => by injection e with e; omega)
    have hmu := Nat.le_trans hmu hgS23.size
    have h := h.keep hgS23 C15 rfl (by omega)
    refine Vm ?_
    refine Xc 12 J J (fun _ => Wy (Zk J)) (Uq [(0, _, _), (3, _, _), (4, _, _), (5, _, _), (6, _, _), (13, _, _), (15, _, _)] (Za J (Za J (Za J (Za J (Za J (Za J (Za J (Zj _)))))))) (Up (kq (Ze (Zg (Zp J (Zb (kq (Ze (Ze (Zg (Zp J (Zb (kq (Yu (?_))))))))))))))))
    have hnd1 := E.1
    refine Jy (fun (x : Nat × Option Addr × Nat) u1 => match x with | ⟨i, a, ca⟩ => (i ≤ (Zd (findD F 4 t.text).1 0).kids.length ∧ CK F n0 b S fv sv sn u1 ∧ Kd u1 (fun k => k < n0) (findD F 4 t.text).1.kids (.slice p97 (findD F 4 t.text).1.kids.length c97) ∧ u1.ownsRow m1 Jj 2 (.slice a i ca) i ((((Zd (findD F 4 t.text).1 0).kids.map fun p => (ofF (Zd p 0)).1).take i).flatMap tyCells) ∧ m1 ≤ u1.heap.size) ∧ GT mutR n0 w u1) _ [(0, True, _), (3, True, _), (4, True, _), (5, True, _), (6, True, _), (13, True, _), (15, True, _)] (fun (x : Nat × Option Addr × Nat) => match x with | ⟨i, a, ca⟩ => [(17, True, .slice a i ca), (18, True, .int .i64 i)]) (fun (x : Nat × Option Addr × Nat) => match x with | ⟨i, a, ca⟩ => (Zd (findD F 4 t.text).1 0).kids.length - i) ((0, none, 0)) ⟨⟨Nat.zero_le _, h, hk97, Wna _ _ _ _, hmu⟩, g⟩ (Xr (blkE E.g4) (Xr (blkE E.g3) (Xr (blkE E.g2) (Xr (blkE E.g1) (Xr (blkE E.g0) (Ua _)))))) (Za J (Za J (Za J (Za J (Za J (Za J (Za J (Za J (Za J (Zj _)))))))))) ?_
    clear E
    rintro ⟨i, a, ca⟩ u1 ⟨hI1, gl1⟩ ⟨B3, B4, B6, B13, B15, _⟩
    replace B3 : Blk _ _ _ _ := B3
    replace B4 : Blk _ _ _ _ := B4
    replace B6 : Blk _ _ _ _ := B6
    replace B13 : Blk _ _ _ _ := B13
    replace B15 : Blk _ _ _ _ := B15
    have g := gl1
    obtain ⟨hi, h, hk97, ov, hmu⟩ := hI1
    obtain ⟨e0, p0, c0, hcell0, hkid0⟩ := Xs hk97 (i := 0) (by omega)
    have E := Uwa (L := [(b15, _, _), (b13, _, _), (b6, _, _), (b4, _, _), (b3, _, _)]) hnd1 ⟨B15, B13, B6, B4, B3, trivial⟩ rfl
    refine Ze (Ze (Zg (Zt J (Zx Zi J (Yg Zh J (E.g0.at_ J) (Ve Zf J J (by omega) e0 (Zx Zi J (Yg Zh J (hcell0.one (i := 4) J) (Qu Zf J (Zfa J J (Zb (kq (Yv J (fun h10 => ?_) (fun h10 => ?_))))))))))))))
    ·replace h10 : i < (Zd (findD F 4 t.text).1 0).kids.length := by simp only [decide_eq_true_eq] at h10; omega
     obtain ⟨e1, p1, c1, hcell1, hkid1⟩ := Xs hkid0 (i := i) h10
     have hfl := hlp _ (List.getElem_mem h10)
     rw [← Wm h10] at hfl
     obtain ⟨e2, p2, c2, hcell2, hkid2⟩ := Xs hkid1 (i := 0) (by omega)
     refine Yc (kq (Ze (Yu (Ze (Zg (Zx Zi J (Yg Zh J (E.g0.at_ J) (Ve Zf J J (by omega) e0 (Zx Zi J (Yg Zh J (hcell0.one (i := 4) J) (Zt J (Ve Zf J J (by omega) e1 (Zx Zi J (Yg Zh J (hcell1.one (i := 4) J) (Ve Zf J J (by omega) e2 (Yk Zc J J hcell2 (?_)))))))))))))))))
     refine Xk J (Zo Xfa Yo (aqc J aq0) J) (Yrb (Zd (Zd (Zd (findD F 4 t.text).1 0) i) 0) _ _ _) (fun w122 g122 => ?_)
     have g := gtg g g122
     replace E := E.grow g122
     have hk97 := hk97.grow (g122)
     have ov := Us ov (g122)
     have hmu := Nat.le_trans hmu ((g122)).size
     have h := h.grow (g122)
     refine Zt J (Qc J J (Qc J J (Yh J Yq J ?_)))
     intro b19 w19 N19
     have l19 := Xm N19 g.size
     have z19 := fun k hk => Nat.ne_of_lt (Nat.lt_of_lt_of_eq (ov.lt k hk).2 N19.at_.symm)
     have g := gtg g N19.g
     have hk97 := hk97.grow (N19.g)
     have ov := Us ov (N19.g)
     have hmu := Nat.le_trans hmu ((N19.g)).size
     have h := h.grow (N19.g)
     replace E := E.new N19
     refine Yt Yn J J J E.g0 ?_
     intro wS24 hgS24 _ BS
     have C19 := E.g0
     replace E := E.s0 hgS24 BS
     have g := Zy g hgS24 (by omega)
     have hk97 := hk97.keep hgS24 (fun k hk _ e => by injection e with e; omega)
     have hmu := Nat.le_trans hmu hgS24.size
     have ov := Vy ov hgS24 (.inr (fun q => z19 _ q rfl))
     have h := h.keep hgS24 C19 rfl (by omega)
     refine Zp J (Zb (kq (Zg (Zt J (Yk Zs J J E.g0.row (Yb _ J Un Yq (pqc J pq0) J J ?_))))))
     intro b127 w127 N127
     have l127 := Xm N127 g.size
     have z127 := fun k hk => Nat.ne_of_lt (Nat.lt_of_lt_of_eq (ov.lt k hk).2 N127.at_.symm)
     have g := gtg g N127.g
     have hk97 := hk97.grow (N127.g)
     have ov := Us ov (N127.g)
     have hmu := Nat.le_trans hmu ((N127.g)).size
     have h := h.grow (N127.g)
     replace E := E.new N127
     refine Ysa J Un Yq J (by decide) (Zk J) ov (Zk J) J N127.blk.row J (by simp only [maxLen]; omega) (by omega) hmu ?_
     intro a2 ca2 w128 ov2 hg128 hat128
     have hob := fun k hk => (ov.lt k hk).1
     have hmu := Nat.le_trans hmu hg128.size
     have g := Qj g hg128 (fun k hk => by have := hob k hk; omega)
     replace E := E.keep hg128 (List.forall_mem_cons.2 ⟨((fun q => z127 _ q.symm rfl)), List.forall_mem_cons.2 ⟨((fun q => z19 _ q.symm rfl)), List.forall_mem_cons.2 ⟨((fun q => Vba ov E.g2 rfl q.symm)), List.forall_mem_cons.2 ⟨((fun q => by have := hob _ q.symm; omega)), List.forall_mem_cons.2 ⟨((fun q => by have := hob _ q.symm; omega)), List.forall_mem_cons.2 ⟨((fun q => by have := hob _ q.symm; omega)), List.forall_mem_cons.2 ⟨((fun q => by have := hob _ q.symm; omega)), List.forall_mem_nil _⟩⟩⟩⟩⟩⟩⟩)
     have h := h.keepr hg128 (fun k hk => ⟨by have := hob k hk; omega, fun hT => Uyd ov k hk hT⟩)
     have hk97 := hk97.keep hg128 (fun k hk _ e => by have := hob k e.symm; omega)
     have hfm : (((Zd (findD F 4 t.text).1 0).kids.map fun p => (ofF (Zd p 0)).1).take i).flatMap tyCells ++ tyCells (ofF (Zd (Zd (Zd (findD F 4 t.text).1 0) i) 0)).1 = (((Zd (findD F 4 t.text).1 0).kids.map fun p => (ofF (Zd p 0)).1).take (i + 1)).flatMap tyCells := by
      rw [List.take_succ_eq_append_getElem (show i < ((Zd (findD F 4 t.text).1 0).kids.map fun p => (ofF (Zd p 0)).1).length by rw [List.length_map]; exact h10), List.flatMap_append, List.getElem_map, ← Wm h10]; simp
     have ov2 : w128.ownsRow m1 Jj 2 (.slice a2 (i + 1) ca2) (i + 1) ((((Zd (findD F 4 t.text).1 0).kids.map fun p => (ofF (Zd p 0)).1).take (i + 1)).flatMap tyCells) := hfm ▸ ov2
     refine Zp J (Zb (kq (Zg (Zt J (Qv J J (by omega) (Zp J (Wh [(17, _, _), (18, _, _), (0, _, _), (3, _, _), (4, _, _), (5, _, _), (6, _, _), (13, _, _), (15, _, _)] (Za J (Za J (Za J (Za J (Za J (Za J (Za J (Za J (Za J (Zj _)))))))))) (Zb (fun a ha => ?_)))))))))
     exact ⟨(i + 1, a2, ca2), ha, ⟨⟨h10, h, hk97, ov2, hmu⟩, g⟩, (Xr (blkE E.g6) (Xr (blkE E.g5) (Xr (blkE E.g4) (Xr (blkE E.g3) (Xr (blkE E.g2) (Ua _)))))), by show _ - (i + 1) < _ - i; omega⟩
    replace h10 : i = (Zd (findD F 4 t.text).1 0).kids.length := by simp only [decide_eq_false_iff_not] at h10; omega
    subst h10
    refine Vq J (kq (Ze (Zg (?_))))
    obtain ⟨e1, p1, c1, hcell1, hkid1⟩ := Xs hk97 (i := 1) (by omega)
    have hlL : (Zd (findD F 4 t.text).1 0).kids.length = ((Zd (findD F 4 t.text).1 0).kids.map fun p => (ofF (Zd p 0)).1).length := by rw [List.length_map]
    have hr62 : RowX m1 [] _ ((Zd (findD F 4 t.text).1 0).kids.map fun p => (ofF (Zd p 0)).1) (.slice a ((Zd (findD F 4 t.text).1 0).kids.map fun p => (ofF (Zd p 0)).1).length ca) := Uwd (by have q := ov; rw [show (Zd (findD F 4 t.text).1 0).kids.length = ((Zd (findD F 4 t.text).1 0).kids.map fun p => (ofF (Zd p 0)).1).length by rw [List.length_map], List.take_length] at q; exact q)
    refine Zx Zi J (Yg Zh J (E.g0.at_ J) (Ve Zf J J (by omega) e1 (Yk Zc J J hcell1 (Xk J (Zo Xfa Yo (aqc J aq0) J) (Yrb (Zd (findD F 4 t.text).1 1) _ _ _) (fun w134 g134 => ?_)))))
    have g := gtg g g134
    replace E := E.grow g134
    have hr62 := hr62.grow (g134)
    have ov := Us ov (g134)
    have hmu := Nat.le_trans hmu ((g134)).size
    have h := h.grow (g134)
    refine Zt J (Qc J J (Qc J J (Yh J Yq J ?_)))
    intro b21 w21 N21
    have l21 := Xm N21 g.size
    have hr62 := hr62.new N21
    have z21 := fun k hk => Nat.ne_of_lt (Nat.lt_of_lt_of_eq (ov.lt k hk).2 N21.at_.symm)
    have g := gtg g N21.g
    have ov := Us ov (N21.g)
    have hmu := Nat.le_trans hmu ((N21.g)).size
    have h := h.grow (N21.g)
    replace E := E.new N21
    refine Yt Yn J J J E.g0 ?_
    intro wS25 hgS25 _ BS
    have C21 := E.g0
    replace E := E.s0 hgS25 BS
    have g := Zy g hgS25 (by omega)
    first | have hr62 := hr62.keept hgS25 C21 rfl | have hr62 := hr62.keep hgS25 (by first | exact .inl (by omega) | simp)
    have hmu := Nat.le_trans hmu hgS25.size
    have ov := Vy ov hgS25 (.inr (fun q => z21 _ q rfl))
    have h := h.keep hgS25 C21 rfl (by omega)
    refine Zp J (Zb (kq (Ze (Ud (rowR (some b4)) [0, 3, 0, 1, 3, 2] [0, 0, 0, 1, 11, 31] mix (by kernel_rfl) [0, 1, 2, 3, 4, 5] J ?_))))
    have g := gtd g
    replace E := E.dr
    have hr62 := hr62.grow (G.drew _)
    have ov := Us ov (G.drew _)
    have hmu := Nat.le_trans hmu ((G.drew _)).size
    have h := h.grow (G.drew _)
    refine Vk 0 J J (fun w1 hx => Xd Zc (Zk J) J (fun _ => (E.g2.keep hx (fun h => E.ne 2 4 J J J (Option.some.inj h))).row)) (Xc 1 J J (fun _ => Yl (Zk J)) (Vk 2 J J (fun w1 hx => Xd Zs (Zk J) J (fun _ => (E.g0.keep hx (fun h => E.ne 0 4 J J J (Option.some.inj h))).row)) (Xo 3 J J ?_)))
    refine Xg (L' := [4, 5]) [0, 3, 0, 2, 3, 2] J J J ?_
    refine Yt Zl J J J E.g4 ?_
    intro wS26 hgS26 _ BS
    have C4 := E.g4
    replace E := E.s4 hgS26 BS
    have g := Zy g hgS26 (by omega)
    first | have hr62 := hr62.keept hgS26 C4 rfl | have hr62 := hr62.keep hgS26 (by first | exact .inl (by omega) | simp)
    have hmu := Nat.le_trans hmu hgS26.size
    have h := h.keep hgS26 C4 rfl (by omega)
    refine Wa (hgS26) ?_
    refine Xc 4 J J (fun _ => Wy (Zk J)) (Xo 5 J J ?_)
    refine Wt (L' := []) [0, 3, 0, 2, 3, 2] J J J J ?_
    refine Yt Yn J J J E.g3 ?_
    intro wS27 hgS27 _ BS
    have C6 := E.g3
    replace E := E.s3 hgS27 BS
    have g := Zy g hgS27 (by omega)
    first | have hr62 := hr62.keept hgS27 C6 rfl | have hr62 := hr62.keep hgS27 (by first | exact .inl (by omega) | simp)
    have hmu := Nat.le_trans hmu hgS27.size
    have h := h.keep hgS27 C6 rfl (by omega)
    refine Vm ?_
    refine Uq [(0, _, _), (3, _, _), (4, _, _), (5, _, _), (6, _, _), (13, _, _), (15, _, _), (17, _, _), (21, _, _), (129, _, _), (130, _, _), (131, _, _), (132, _, _), (133, _, _), (134, _, _), (135, _, _), (136, _, _), (137, _, _), (138, _, _), (139, _, _)] (Za J (Za J (Za J (Za J (Za J (Za J (Za J (Za J (Za J (Za J (Za J (Za J (Za J (Za J (Za J (Za J (Za J (Za J (Za J (Za J (Zj _))))))))))))))))))))) (Up (kq (Zr (Wb (rs := [.cell 4 26, .tmp 5, .cell 6 24]) (vs := [_, _, _]) J J (Yy J Zc J (E.g4.row) (Wg J (Yy J Zs J (E.g3.row) (Yf)))) J ?_))))
    have e : calR F t (ckX F t) S = (((lookR F S t).1, ((Zd (findD F 4 t.text).1 0).kids.map fun p => (ofF (Zd p 0)).1), (ofF (Zd (findD F 4 t.text).1 1)).1), S) := by
     unfold calR; rw [Yeg h1, Yfg h8, h9]; rfl
    rw [e]; exact ⟨⟨_, _, rfl, Xz (t := (lookR F S t).1) rfl (lookN _ _), by have q := hr62.row; rw [← hlL] at q; exact q⟩, h.chk, g⟩
  refine Yc (kq (Ze (Zg (Zt J (Yk Zc J J E.g3.row (Ya J (Zo Wn Yo (aqc J (aqc J aq0)) J) (CkC.to (HX) [b3, b4, b6] h hk0 hb hcn (E.ltm (by simp [selB])) g.size) ?_))))))
  rintro v142 w142 ⟨⟨p142, c142, rfl, q142, k142⟩, h, g142⟩
  refine ⟨nw1, ?_⟩
  have g := g.trans g142
  replace E := E.gt g142 rfl
  refine Yh J Zm J ?_
  intro b23 w23 N23
  have l23 := Xm N23 g.size
  have k142 := k142.new N23
  have g := gtg g N23.g
  have h := h.grow (N23.g)
  replace E := E.new N23
  refine Yt Zl J J J E.g0 ?_
  intro wS28 hgS28 _ BS
  have C23 := E.g0
  replace E := E.s0 hgS28 BS
  have g := Zy g hgS28 (by omega)
  have h := h.keep hgS28 C23 rfl (by omega)
  have k142 := k142.keep hgS28 (by simp)
  refine Zb (kq (Ze (Ze (Zg (Zx Xa J (Yk Zs J J (E.g0.row.part 5 2) (Uc Yq Xv (pqc J pq0) J J (Yi J (fun _ => Wac Uz (Zk J) (Zk J) J) (Zb (kq (Yv J (fun h11 => ?_) (fun h11 => ?_))))))))))))
  ·have hy : tyEqB ((ckT F t).ex S).1.ty tFunc = false := by have q : (!tyEqB ((ckT F t).ex S).1.ty tFunc) = true := h11; rw [Bool.not_eq_true'] at q; exact q
   refine Zg (Zt J (Zx Yw J (Yg Zu J (E.g4.at_ J) (Ya J (Zo Yz Yo (aqc J (aqc J (aqc J aq0))) J) (Vj t.pos 7 h) ?_))))
   rintro v150 w150 ⟨rfl, h, g150⟩
   refine ⟨nw1, ?_⟩
   have g := g.trans g150
   replace E := E.gt g150 rfl
   have k142 := k142.gt g150
   refine Zb (kq (Ze (Zg (Yk Zc J J E.g0.row (Uc Yq Xv pq0 J J (Yt Zl J J J E.g3 ?_))))))
   intro wS29 hgS29 _ BS
   have C4 := E.g3
   replace E := E.s3 hgS29 BS
   have g := Zy g hgS29 (by omega)
   have h := h.keep hgS29 C4 rfl (by omega)
   have k142 := k142.keep hgS29 (by simp)
   refine Zp J (Yt Yn J J J E.g2 ?_)
   intro wS30 hgS30 _ BS
   have C6 := E.g2
   replace E := E.s2 hgS30 BS
   have g := Zy g hgS30 (by omega)
   have h := h.keep hgS30 C6 rfl (by omega)
   have k142 := k142.keep hgS30 (by simp)
   refine Zb (kq (Zr (Wb (rs := [.cell 4 26, .tmp 5, .cell 6 24]) (vs := [_, _, _]) J J (Yy J Zc J (E.g3.row) (Wg J (Yy J Zs J (E.g2.row) (Yf)))) J ?_)))
   have e : calR F t (ckX F t) S = ((((ckT F t).ex S).1, [], ty0), failU (tyEqB ((ckT F t).ex S).1.ty tFunc) t.pos 7 ((ckT F t).ex S).2) := by
    rw [ex0]; unfold calR; rw [Yeg h1, Yfg h8, h9]; rfl
   rw [e, hy]; exact ⟨⟨_, _, rfl, Xz rfl (k142.kdN q142), Ji (lo := 0) (X := []) |>.row⟩, h, g⟩
  have hy : tyEqB ((ckT F t).ex S).1.ty tFunc = true := by have q : (!tyEqB ((ckT F t).ex S).1.ty tFunc) = false := h11; rw [Bool.not_eq_false'] at q; exact q
  refine Yc (kq (Ze (Zg (Yk Zc J J E.g0.row (Uc Yq Xv pq0 J J (Yt Zl J J J E.g3 ?_))))))
  intro wS31 hgS31 _ BS
  have C4 := E.g3
  replace E := E.s3 hgS31 BS
  have g := Zy g hgS31 (by omega)
  have h := h.keep hgS31 C4 rfl (by omega)
  have k142 := k142.keep hgS31 (by simp)
  refine Zp J (Yt Yn J J J E.g2 ?_)
  intro wS32 hgS32 _ BS
  have C6 := E.g2
  replace E := E.s2 hgS32 BS
  have g := Zy g hgS32 (by omega)
  have h := h.keep hgS32 C6 rfl (by omega)
  have k142 := k142.keep hgS32 (by simp)
  refine Zb (kq (Zr (Wb (rs := [.cell 4 26, .tmp 5, .cell 6 24]) (vs := [_, _, _]) J J (Yy J Zc J (E.g3.row) (Wg J (Yy J Zs J (E.g2.row) (Yf)))) J ?_)))
  have e : calR F t (ckX F t) S = ((((ckT F t).ex S).1, [], ty0), failU (tyEqB ((ckT F t).ex S).1.ty tFunc) t.pos 7 ((ckT F t).ex S).2) := by
   rw [ex0]; unfold calR; rw [Yeg h1, Yfg h8, h9]; rfl
  rw [e, hy]; exact ⟨⟨_, _, rfl, Xz rfl (k142.kdN q142), Ji (lo := 0) (X := []) |>.row⟩, h, g⟩
 replace h8 : t.kind ≠ 27 := of_decide_eq_false h8
 refine Yc (kq (Ze (Zg (Zt J (Yk Zc J J E.g2.row (Ya J (Zo Wn Yo (aqc J (aqc J aq0)) J) (CkC.to (HX) [b3, b4, b6] h hk0 hb hcn (E.ltm (by simp [selB])) g.size) ?_))))))
 rintro v142 w142 ⟨⟨p142, c142, rfl, q142, k142⟩, h, g142⟩
 refine ⟨nw1, ?_⟩
 have g := g.trans g142
 replace E := E.gt g142 rfl
 refine Yh J Zm J ?_
 intro b23 w23 N23
 have l23 := Xm N23 g.size
 have k142 := k142.new N23
 have g := gtg g N23.g
 have h := h.grow (N23.g)
 replace E := E.new N23
 refine Yt Zl J J J E.g0 ?_
 intro wS33 hgS33 _ BS
 have C23 := E.g0
 replace E := E.s0 hgS33 BS
 have g := Zy g hgS33 (by omega)
 have h := h.keep hgS33 C23 rfl (by omega)
 have k142 := k142.keep hgS33 (by simp)
 refine Zb (kq (Ze (Ze (Zg (Zx Xa J (Yk Zs J J (E.g0.row.part 5 2) (Uc Yq Xv (pqc J pq0) J J (Yi J (fun _ => Wac Uz (Zk J) (Zk J) J) (Zb (kq (Yv J (fun h12 => ?_) (fun h12 => ?_))))))))))))
 ·have hy : tyEqB ((ckT F t).ex S).1.ty tFunc = false := by have q : (!tyEqB ((ckT F t).ex S).1.ty tFunc) = true := h12; rw [Bool.not_eq_true'] at q; exact q
  refine Zg (Zt J (Zx Yw J (Yg Zu J (E.g3.at_ J) (Ya J (Zo Yz Yo (aqc J (aqc J (aqc J aq0))) J) (Vj t.pos 7 h) ?_))))
  rintro v150 w150 ⟨rfl, h, g150⟩
  refine ⟨nw1, ?_⟩
  have g := g.trans g150
  replace E := E.gt g150 rfl
  have k142 := k142.gt g150
  refine Zb (kq (Ze (Zg (Yk Zc J J E.g0.row (Uc Yq Xv pq0 J J (Yt Zl J J J E.g2 ?_))))))
  intro wS34 hgS34 _ BS
  have C4 := E.g2
  replace E := E.s2 hgS34 BS
  have g := Zy g hgS34 (by omega)
  have h := h.keep hgS34 C4 rfl (by omega)
  have k142 := k142.keep hgS34 (by simp)
  refine Zp J (Yt Yn J J J E.g1 ?_)
  intro wS35 hgS35 _ BS
  have C6 := E.g1
  replace E := E.s1 hgS35 BS
  have g := Zy g hgS35 (by omega)
  have h := h.keep hgS35 C6 rfl (by omega)
  have k142 := k142.keep hgS35 (by simp)
  refine Zb (kq (Zr (Wb (rs := [.cell 4 26, .tmp 5, .cell 6 24]) (vs := [_, _, _]) J J (Yy J Zc J (E.g2.row) (Wg J (Yy J Zs J (E.g1.row) (Yf)))) J ?_)))
  have e : calR F t (ckX F t) S = ((((ckT F t).ex S).1, [], ty0), failU (tyEqB ((ckT F t).ex S).1.ty tFunc) t.pos 7 ((ckT F t).ex S).2) := by
   rw [ex0]; unfold calR; rw [Yeg h1, Yeg h8]; rfl
  rw [e, hy]; exact ⟨⟨_, _, rfl, Xz rfl (k142.kdN q142), Ji (lo := 0) (X := []) |>.row⟩, h, g⟩
 have hy : tyEqB ((ckT F t).ex S).1.ty tFunc = true := by have q : (!tyEqB ((ckT F t).ex S).1.ty tFunc) = false := h12; rw [Bool.not_eq_false'] at q; exact q
 refine Yc (kq (Ze (Zg (Yk Zc J J E.g0.row (Uc Yq Xv pq0 J J (Yt Zl J J J E.g2 ?_))))))
 intro wS36 hgS36 _ BS
 have C4 := E.g2
 replace E := E.s2 hgS36 BS
 have g := Zy g hgS36 (by omega)
 have h := h.keep hgS36 C4 rfl (by omega)
 have k142 := k142.keep hgS36 (by simp)
 refine Zp J (Yt Yn J J J E.g1 ?_)
 intro wS37 hgS37 _ BS
 have C6 := E.g1
 replace E := E.s1 hgS37 BS
 have g := Zy g hgS37 (by omega)
 have h := h.keep hgS37 C6 rfl (by omega)
 have k142 := k142.keep hgS37 (by simp)
 refine Zb (kq (Zr (Wb (rs := [.cell 4 26, .tmp 5, .cell 6 24]) (vs := [_, _, _]) J J (Yy J Zc J (E.g2.row) (Wg J (Yy J Zs J (E.g1.row) (Yf)))) J ?_)))
 have e : calR F t (ckX F t) S = ((((ckT F t).ex S).1, [], ty0), failU (tyEqB ((ckT F t).ex S).1.ty tFunc) t.pos 7 ((ckT F t).ex S).2) := by
  rw [ex0]; unfold calR; rw [Yeg h1, Yeg h8]; rfl
 rw [e, hy]; exact ⟨⟨_, _, rfl, Xz rfl (k142.kdN q142), Ji (lo := 0) (X := []) |>.row⟩, h, g⟩
set_option maxHeartbeats 4000000
theorem OwnN.new {X : List Nat} {lo b : Nat} {w w' : World} {ks : List Nd} {s : Value} {e : TypeId} {l : List Value} (h : OwnN X lo w ks s) (N : New w w' b e l) : OwnN (b :: X) lo w' ks s := by
 have := N.at_
 exact Zjb h (fun k hk hlt => ⟨⟨hk.1.1, fun hm => by
  rcases List.mem_cons.1 hm with q | q
  ·omega
  ·exact hk.1.2 q⟩, hk.2.grow N.g⟩) (fun k _ hlt => N.g.block hlt) fun xs h => Us h N.g
theorem OwnN.sub {X Y : List Nat} {lo : Nat} {w : World} {ks : List Nd} {s : Value} (h : OwnN X lo w ks s) (hs : ∀ b ∈ Y, b ∈ X) : OwnN Y lo w ks s :=
 Zjb h (fun k hk _ => ⟨⟨hk.1.1, fun hm => hk.1.2 (hs k hm)⟩, hk.2⟩) (fun _ _ _ => rfl) fun xs h => h
theorem RowX.free {lo : Nat} {X : List Nat} {w : World} {l : List Ty} {v : Value} (h : RowX lo X w l v) : RowX 0 [] w l v := h.row.x
theorem Uxc {lo : Nat} {X : List Nat} {w : World} {l : List Ty} {p : Option Addr} {c : Nat} (h : RowX lo X w l (.slice p l.length c)) {i : Nat} (hi : i < l.length) : p = some ⟨pb p, po p, none⟩ ∧ RowAt w (pb p) (po p + i * 2) (tyCells l[i]) := by
 obtain ⟨p', c', hv, h⟩ := h
 injection hv with e1 _ e2
 subst e1
 obtain ⟨b, o, cs, fr, rfl, _, _, hR⟩ := h (by omega)
 exact ⟨rfl, Wcc (f := tyCells) (z := 2) Wmb hR hi⟩
theorem Uzd {lo : Nat} {X : List Nat} {w : World} {l : List Ty} {p : Option Addr} {c : Nat} (h : RowX lo X w l (.slice p l.length c)) {i : Nat} (hi : i < l.length) : RowAt w (pb p) (po p + i * 2) (tyCells (l.getD i ty0)) := by
 rw [List.getD_eq_getElem?_getD, List.getElem?_eq_getElem hi]; exact (Uxc h hi).2
theorem CkL.to {F t : Nd} (H : CkL F t) {n0 b : Nat} {S : CSt} {w : World} {v : Value} {N m0 : Nat} (Z : List Nat) (h : Chk F n0 b S w) (hk : Kd w (fun k => k < n0) t.kids v) (hb : Bd S N) (hc : N + count t ≤ 1000000) (hZ : ∀ j ∈ Z, j < w.heap.size) (hm : m0 ≤ w.heap.size) :
  Ret PP Wxa #[.pointer (some ⟨b, 0, none⟩), ndV t v] w fun r w' => (∃ p c pl cl, r = .tuple #[ndV ((ckT F t).cal S).1.1 (.slice p ((ckT F t).cal S).1.1.kids.length c), .slice pl ((ckT F t).cal S).1.2.1.length cl, tyV ((ckT F t).cal S).1.2.2] ∧ m0 ≤ w.heap.size ∧ KdX w.heap.size Z w' ((ckT F t).cal S).1.1.kids (.slice p ((ckT F t).cal S).1.1.kids.length c) ∧ RowX 0 [] w' ((ckT F t).cal S).1.2.1 (.slice pl ((ckT F t).cal S).1.2.1.length cl)) ∧ Chk F n0 b ((ckT F t).cal S).2 w' ∧ GT mutR n0 w w' :=
 (H h hk hb hc).mono fun r w' hr => by
  obtain ⟨⟨u, l, e, ⟨p, c, e2, k⟩, hl⟩, h1, h2⟩ := hr
  subst e2
  obtain ⟨pl, cl, rfl, _⟩ := id hl
  exact ⟨⟨p, c, pl, cl, e, hm, KdN.x k hZ, hl.x⟩, h1, h2⟩
theorem Wub (t : Nd) (x : Nat → Ck) (ps : List Ty) (S : CSt) : ∀ i, (argA t x ps S i).1.length = i
 | 0 => rfl
 | i + 1 => by
  show ((argA t x ps S i).1 ++ [_]).length = _
  rw [List.length_append, Wub t x ps S i]; rfl
theorem Zqf {F t : Nd} (K : ∀ i, i < t.kids.length → CkOk F (Zd t i)) (hk30 : t.kind = 30) (hx : exprB t = true) : CkC F Uaa t (callR t (ckX F t)) := by
 intro n0 b S w v N h hkw hb hcn
 obtain ⟨hl, hall⟩ := sh30 hk30 hx
 have x0 : ckX F t 0 = ckT F (Zd t 0) := Uo (by omega)
 obtain ⟨p, c, rfl, _⟩ := id hkw
 have hk0 := hkw
 have hlt := h.lt
 have hln := Qt t
 have he : exprB (Zd t 0) = true := Qh hall (by omega)
 have Q0 := K 0 (by omega)
 have hs1 : sC t 1 = cN t 0 := by show 0 + cN t 0 = _; omega
 have hsl := Zqb t 1
 have hc0 : cN t 0 = count (Zd t 0) := Utc (by omega)
 have hst0 : Stp (sC t 1) S (failU (decide ((t.kids.length : Int) - 1 = (((ckT F (Zd t 0)).cal S).1.2.1.length : Nat))) t.pos 7 ((ckT F (Zd t 0)).cal S).2) := by
  have q := ((Uba F (Zd t 0)).cal S).failu (decide ((t.kids.length : Int) - 1 = (((ckT F (Zd t 0)).cal S).1.2.1.length : Nat))) t.pos 7
  exact q.mono (by omega)
 have hag : ∀ i, Stp (sC t (i + 1)) S (argA t (ckX F t) ((ckT F (Zd t 0)).cal S).1.2.1 (failU (decide ((t.kids.length : Int) - 1 = (((ckT F (Zd t 0)).cal S).1.2.1.length : Nat))) t.pos 7 ((ckT F (Zd t 0)).cal S).2) i).2 := fun i => Wgc (Zsd F t) ((ckT F (Zd t 0)).cal S).1.2.1 hst0 i
 have g := GT.refl mutR n0 w
 refine Yp (m := 84) Xjb J J [(0, True, _), (1, True, _)] (Za J (Za J (Zj _))) ?_
 refine Ze (Zg (Wq J (Zk J) J ?_))
 intro b3 w3 N3
 have l3 := Xm N3 g.size
 have g := gtg g N3.g
 have h := h.grow (N3.g)
 have hk0 := hk0.grow (N3.g)
 have E := (Wo _).new N3
 refine Yh J Zm J ?_
 intro b4 w4 N4
 have l4 := Xm N4 g.size
 have g := gtg g N4.g
 have h := h.grow (N4.g)
 have hk0 := hk0.grow (N4.g)
 replace E := E.new N4
 refine Zb (kq (Ze (Zg (Yk Zc J J E.g1.row (Ya J (Zo Vg Yo (aqc J aq0) J) (Uw t _ _ _) ?_)))))
 rintro v12 w12 ⟨rfl, g12⟩
 refine ⟨fun _ => g12, ?_⟩
 have g := gtg g g12
 replace E := E.grow g12
 have h := h.grow (g12)
 have hk0 := hk0.grow (g12)
 refine Yh J Zm J ?_
 intro b5 w5 N5
 have l5 := Xm N5 g.size
 have g := gtg g N5.g
 have h := h.grow (N5.g)
 have hk0 := hk0.grow (N5.g)
 replace E := E.new N5
 refine Yt Zl J J J E.g0 ?_
 intro wS1 hgS1 _ BS
 have C5 := E.g0
 replace E := E.s0 hgS1 BS
 have g := Zy g hgS1 (by omega)
 have h := h.keep hgS1 C5 rfl (by omega)
 have hk0 := hk0.keep hgS1 (fun k hk _ e => by injection e with e; omega)
 refine Zb (kq (Ze (Zg (Zt J (Zx Zi J (Yg Zh J (E.g2.at_ J) (?_)))))))
 obtain ⟨hpe, p_17, c_17, hcell, hkid⟩ := Xs hk0 (i := 0) (by omega)
 refine Ve Zf J J (by omega) hpe (Yk Zc J J hcell (Ya J (Zo Xnb Yo (aqc J (aqc J aq0)) J) (CkL.to (Q0.cal he) [b3, b4, b5] h hkid hb (by omega) (E.ltm (by simp [selB])) g.size) ?_))
 rintro v19 w19 ⟨⟨p19, c19, pl, cl, rfl, q19, k19, hr⟩, h, g19⟩
 refine ⟨nw1, ?_⟩
 have g := g.trans g19
 replace E := E.gt g19 rfl
 have hk0 := hk0.gt g19 (fun k h => h)
 refine Zt J (Qc J J (Qc J J (Qc J J (Yh J Zm J ?_))))
 intro b6 w6 N6
 have l6 := Xm N6 g.size
 have hr := hr.new N6
 have k19 := k19.new N6
 have g := gtg g N6.g
 have h := h.grow (N6.g)
 have hk0 := hk0.grow (N6.g)
 replace E := E.new N6
 refine Yh J Yq J ?_
 intro b8 w8 N8
 have l8 := Xm N8 g.size
 have hr := hr.new N8
 have k19 := k19.new N8
 have g := gtg g N8.g
 have h := h.grow (N8.g)
 have hk0 := hk0.grow (N8.g)
 replace E := E.new N8
 refine Yt Zl J J J E.g1 ?_
 intro wS2 hgS2 _ BS
 have C6 := E.g1
 replace E := E.s1 hgS2 BS
 have g := Zy g hgS2 (by omega)
 first | have hr := hr.keept hgS2 C6 rfl | have hr := hr.keep hgS2 (by first | exact .inl (by omega) | simp)
 have h := h.keep hgS2 C6 rfl (by omega)
 have hk0 := hk0.keep hgS2 (fun k hk _ e => by injection e with e; omega)
 have k19 := k19.keep hgS2 (by simp)
 refine Zp J (Yt Yn J J J E.g0 ?_)
 intro wS3 hgS3 _ BS
 have C8 := E.g0
 replace E := E.s0 hgS3 BS
 have g := Zy g hgS3 (by omega)
 first | have hr := hr.keept hgS3 C8 rfl | have hr := hr.keep hgS3 (by first | exact .inl (by omega) | simp)
 have h := h.keep hgS3 C8 rfl (by omega)
 have hk0 := hk0.keep hgS3 (fun k hk _ e => by injection e with e; omega)
 have k19 := k19.keep hgS3 (by simp)
 refine Zb (kq (Ze (Zg (?_))))
 skip
 refine Yk Zc J J E.g1.row (Yb _ J Zf Zm (pqc J pq0) J J ?_)
 intro b24 w24 N24
 have l24 := Xm N24 g.size
 have hr := hr.new N24
 have k19 := k19.new N24
 have B24 := N24.blk
 have x24_3 := N24.ne E.g4
 have x24_4 := N24.ne E.g3
 have x24_5 := N24.ne E.g2
 have x24_6 := N24.ne E.g1
 have x24_8 := N24.ne E.g0
 have g := gtg g N24.g
 replace E := E.grow N24.g
 have h := h.grow (N24.g)
 have hk0 := hk0.grow (N24.g)
 have hO : OwnN [b3, b4, b5, b6, b8] w.heap.size _ [((ckT F (Zd t 0)).cal S).1.1] (.slice (some ⟨b24, 0, none⟩) 1 1) := Vqa B24 l24 (k19.mono fun k hk _ => ⟨⟨⟨by have := hk.1.1; omega, by have := hk.1.2; simp at this ⊢; omega⟩, hk.2⟩, by have := hk.1.2; simp at this; omega⟩) ⟨⟨l24, by simp; omega⟩, Ug B24⟩
 refine Zx Zi J (Vz Xb J J J E.g2 ?_)
 intro wS4 hgS4 _ BS
 have C5 := E.g2
 replace E := E.s2 hgS4 BS
 have g := Zy g hgS4 (by omega)
 first | have hr := hr.keept hgS4 C5 rfl | have hr := hr.keep hgS4 (by first | exact .inl (by omega) | simp)
 have h := h.keep hgS4 C5 rfl (by omega)
 have hk0 := hk0.keep hgS4 (fun k hk _ e => by injection e with e; omega)
 first | have hO := hO.keept hgS4 C5 rfl | have hO := hO.keep hgS4 (by simp)
 refine Zb (kq (Ze (Ze (Zg (Zx Zi J (Yg Zh J (E.g4.at_ J) (Qu Zf J (Yi J (fun _ => Xxa (Zk J) Xy (fun _ => by omega)) (Zt J (Qu Un J (Wja J J (Zb (kq (Yv J (fun h1 => ?_) (fun h1 => ?_)))))))))))))))
 ·have hq : decide ((t.kids.length : Int) - 1 = (((ckT F (Zd t 0)).cal S).1.2.1.length : Nat)) = false := by simpa using h1
  refine Zg (Zt J (Zx Yw J (Yg Zu J (E.g4.at_ J) (Ya J (Zo Yz Yo (aqc J (aqc J (aqc J aq0))) J) (Vj t.pos 7 h) ?_))))
  rintro v36 w36 ⟨rfl, h, g36⟩
  refine ⟨nw1, ?_⟩
  have g := g.trans g36
  replace E := E.gt g36 rfl
  have hr := hr.gt g36
  have hk0 := hk0.gt g36 (fun k h => h)
  have hO := hO.gt g36 rfl
  have eS : failS t.pos 7 ((ckT F (Zd t 0)).cal S).2 = (failU (decide ((t.kids.length : Int) - 1 = (((ckT F (Zd t 0)).cal S).1.2.1.length : Nat))) t.pos 7 ((ckT F (Zd t 0)).cal S).2) := by rw [hq]; rfl
  rw [eS] at h
  refine Zb (kq (Ze (Ze (Zg (Zp J (Zb (kq (Yu (?_)))))))))
  have hnd1 := E.1
  refine Jy (fun (i : Nat) u1 => (i + 1 ≤ t.kids.length ∧ Chk F n0 b (argA t (ckX F t) ((ckT F (Zd t 0)).cal S).1.2.1 (failU (decide ((t.kids.length : Int) - 1 = (((ckT F (Zd t 0)).cal S).1.2.1.length : Nat))) t.pos 7 ((ckT F (Zd t 0)).cal S).2) i).2 u1 ∧ RowX 0 [] u1 ((ckT F (Zd t 0)).cal S).1.2.1 (.slice pl ((ckT F (Zd t 0)).cal S).1.2.1.length cl) ∧ ∃ s, Blk u1 b5 Vd (ndCells (clnT t) s) ∧ OwnN [b3, b4, b5, b6, b8] w.heap.size u1 (((ckT F (Zd t 0)).cal S).1.1 :: (argA t (ckX F t) ((ckT F (Zd t 0)).cal S).1.2.1 (failU (decide ((t.kids.length : Int) - 1 = (((ckT F (Zd t 0)).cal S).1.2.1.length : Nat))) t.pos 7 ((ckT F (Zd t 0)).cal S).2) i).1) s) ∧ GT mutR n0 w u1) _ [(0, True, _), (3, True, _), (4, True, _), (5, True, _), (7, True, _), (8, True, _)] (fun (i : Nat) => [(9, True, .int .i64 ((i + 1 : Nat) : Int))]) (fun (i : Nat) => t.kids.length - i) (0) ⟨⟨hl, h, hr.free, _, E.g2, hO.sub (by intro j hj; simp at hj ⊢; omega)⟩, g⟩ (Xr (blkE E.g4) (Xr (blkE E.g3) (Xr (blkE E.g1) (Xr (blkE E.g0) (Ua _))))) (Za J (Za J (Za J (Za J (Za J (Za J (Za J (Zj _)))))))) ?_
  clear E
  rintro i u1 ⟨hI1, gl1⟩ ⟨B3, B4, B6, B8, _⟩
  replace B3 : Blk _ _ _ _ := B3
  replace B4 : Blk _ _ _ _ := B4
  replace B6 : Blk _ _ _ _ := B6
  replace B8 : Blk _ _ _ _ := B8
  have g := gl1
  obtain ⟨hi, h, hr, s, B5, hO⟩ := hI1
  obtain ⟨sa, sc, rfl⟩ := hO.slice
  have hk0 := hkw.gt gl1 (fun k h => h)
  have hlen : (((ckT F (Zd t 0)).cal S).1.1 :: (argA t (ckX F t) ((ckT F (Zd t 0)).cal S).1.2.1 (failU (decide ((t.kids.length : Int) - 1 = (((ckT F (Zd t 0)).cal S).1.2.1.length : Nat))) t.pos 7 ((ckT F (Zd t 0)).cal S).2) i).1).length = i + 1 := by rw [List.length_cons, Wub]
  have hl2 := Wub t (ckX F t) ((ckT F (Zd t 0)).cal S).1.2.1 (failU (decide ((t.kids.length : Int) - 1 = (((ckT F (Zd t 0)).cal S).1.2.1.length : Nat))) t.pos 7 ((ckT F (Zd t 0)).cal S).2) i
  have E := Uwa (L := [(b8, _, _), (b6, _, _), (b5, _, _), (b4, _, _), (b3, _, _)]) hnd1 ⟨B8, B6, B5, B4, B3, trivial⟩ rfl
  refine Ze (Ze (Zg (Zt J (Zx Zi J (Yg Zh J (E.g4.at_ J) (Qu Zf J (Zfa J J (Zb (kq (Yv J (fun h2 => ?_) (fun h2 => ?_)))))))))))
  ·replace h2 : i + 1 < t.kids.length := by simp only [decide_eq_true_eq] at h2; omega
   have hlt2 := h2
   obtain ⟨e0, p1, c1, hcell, hkid⟩ := Xs hk0 (i := i + 1) h2
   have Qi : CkC F Qp (Zd t (i + 1)) (ckT F (Zd t (i + 1))).ex := (K (i + 1) h2).ex (Qh hall h2)
   have xi : ckX F t (i + 1) = ckT F (Zd t (i + 1)) := Uo h2
   have hbd := (hag i).bd _ hb
   have hsc := Zqb t (i + 2)
   have hcN := Utc h2
   have hsc1 : sC t (i + 2) = sC t (i + 1) + cN t (i + 1) := rfl
   have hOlt := hO.lt
   have ei : (((i + 1 : Nat) : Int) - 1).toNat = i := by omega
   refine Yc (kq (Ze (Yu (Ze (Zg (Zt J (Zx Zi J (Yg Zh J (E.g4.at_ J) (Zt J (Ve Zf J J (by omega) e0 (Yk Zc J J hcell (Ya J (Zo Wn Yo (aqc J (aqc J aq0)) J) (CkC.to Qi [b3, b4, b5, b6, b8] h hkid hbd (by omega) (E.ltm (by simp [selB])) g.size) ?_))))))))))))
   rintro v50 w50 ⟨⟨p50, c50, rfl, q50, k50⟩, h, g50⟩
   refine ⟨nw1, ?_⟩
   have g := g.trans g50
   replace E := E.gt g50 rfl
   have hr := hr.gt g50
   have hk0 := hk0.gt g50 (fun k h => h)
   have hO := hO.gt g50 rfl
   have hd : decide (((i + 1 : Nat) : Int) - 1 < (((ckT F (Zd t 0)).cal S).1.2.1.length : Nat)) = decide (i < ((ckT F (Zd t 0)).cal S).1.2.1.length) := by rw [decide_eq_decide]; omega
   have ea : argA t (ckX F t) ((ckT F (Zd t 0)).cal S).1.2.1 (failU (decide ((t.kids.length : Int) - 1 = (((ckT F (Zd t 0)).cal S).1.2.1.length : Nat))) t.pos 7 ((ckT F (Zd t 0)).cal S).2) (i + 1) = ((argA t (ckX F t) ((ckT F (Zd t 0)).cal S).1.2.1 (failU (decide ((t.kids.length : Int) - 1 = (((ckT F (Zd t 0)).cal S).1.2.1.length : Nat))) t.pos 7 ((ckT F (Zd t 0)).cal S).2) i).1 ++ [((ckT F (Zd t (i + 1))).ex (argA t (ckX F t) ((ckT F (Zd t 0)).cal S).1.2.1 (failU (decide ((t.kids.length : Int) - 1 = (((ckT F (Zd t 0)).cal S).1.2.1.length : Nat))) t.pos 7 ((ckT F (Zd t 0)).cal S).2) i).2).1], failU (!(decide (i < ((ckT F (Zd t 0)).cal S).1.2.1.length) && !Ub (((ckT F (Zd t 0)).cal S).1.2.1.getD i ty0) ((ckT F (Zd t (i + 1))).ex (argA t (ckX F t) ((ckT F (Zd t 0)).cal S).1.2.1 (failU (decide ((t.kids.length : Int) - 1 = (((ckT F (Zd t 0)).cal S).1.2.1.length : Nat))) t.pos 7 ((ckT F (Zd t 0)).cal S).2) i).2).1.ty)) (Zd t (i + 1)).pos 7 ((ckT F (Zd t (i + 1))).ex (argA t (ckX F t) ((ckT F (Zd t 0)).cal S).1.2.1 (failU (decide ((t.kids.length : Int) - 1 = (((ckT F (Zd t 0)).cal S).1.2.1.length : Nat))) t.pos 7 ((ckT F (Zd t 0)).cal S).2) i).2).2) := by
    show ((argA t (ckX F t) ((ckT F (Zd t 0)).cal S).1.2.1 (failU (decide ((t.kids.length : Int) - 1 = (((ckT F (Zd t 0)).cal S).1.2.1.length : Nat))) t.pos 7 ((ckT F (Zd t 0)).cal S).2) i).1 ++ [((ckX F t (i + 1)).ex (argA t (ckX F t) ((ckT F (Zd t 0)).cal S).1.2.1 (failU (decide ((t.kids.length : Int) - 1 = (((ckT F (Zd t 0)).cal S).1.2.1.length : Nat))) t.pos 7 ((ckT F (Zd t 0)).cal S).2) i).2).1], _) = _
    rw [xi]
   refine Yh J Zm J ?_
   intro b10 w10 N10
   have l10 := Xm N10 g.size
   have hr := hr.new N10
   have hO := hO.new N10
   have k50 := k50.new N10
   have g := gtg g N10.g
   have h := h.grow (N10.g)
   have hk0 := hk0.grow (N10.g)
   replace E := E.new N10
   refine Yt Zl J J J E.g0 ?_
   intro wS5 hgS5 _ BS
   have C10 := E.g0
   replace E := E.s0 hgS5 BS
   have g := Zy g hgS5 (by omega)
   first | have hr := hr.keept hgS5 C10 rfl | have hr := hr.keep hgS5 (by first | exact .inl (by omega) | simp)
   have h := h.keep hgS5 C10 rfl (by omega)
   have hk0 := hk0.keep hgS5 (fun k hk _ e => by injection e with e; omega)
   have k50 := k50.keep hgS5 (by simp)
   first | have hO := hO.keept hgS5 C10 rfl | have hO := hO.keep hgS5 (by simp)
   refine Zb (kq (Ze (Ze (Wr [3, 3, 3, 3, 3, 3, 3, 3, 3, 3, 0, 3, 0, 1, 3, 3] [true, true, true, true, true, true, true, true, true, true, true, true, true, true, true, true] [0, 1, 0, 4, 15, 31, 63, 63, 191, 511, 1023, 63, 2111, 8191, 16383, 32767] mix (by kernel_rfl) ?_))))
   have g := gtd g
   replace E := E.dr
   have hr := hr.grow (G.drew _)
   have h := h.grow (G.drew _)
   have hk0 := hk0.grow (G.drew _)
   have k50 := k50.grow (G.drew _)
   have hO := hO.grow (G.drew _)
   refine Zt J (Yi J (fun _ => Xxa (Zk J) Xy (fun _ => by omega)) (Zt J (Qu Un J (Zfa J J (Zt J (Zn J J J (fun _ => Yl (Zk J)) (Zn J J J (fun _ => Yl (Zk J)) (Zn J J J (fun _ => Xxa (Zq J id) Xy (fun _ => by omega)) (Zn J J J (fun _ => Wj Un (Zq J id) (Zq J id) (fun hc => by have := of_decide_eq_true hc.2; omega) (fun hc => (Uxc hr (i := i) (by have := of_decide_eq_true hc.2; omega)).1)) (Yj J J J (Xd Zs (Zq J id) J (fun hc => by rw [ei]; exact Uzd hr (i := i) (by have := of_decide_eq_true hc.2; omega))) (Zn J J J (fun _ => Zv Xa (Zk J)) (Yj J J J (Xd Zs (Zq J id) J (fun _ => E.g0.row.part 5 2)) (We J J J (fun _ => (Zo Jf Yo (Xf (Zq J id) (Xf (Zq J id) (Xw))) J)) (fun hc => Xya (((ckT F (Zd t 0)).cal S).1.2.1.getD i ty0) ((ckT F (Zd t (i + 1))).ex (argA t (ckX F t) ((ckT F (Zd t 0)).cal S).1.2.1 (failU (decide ((t.kids.length : Int) - 1 = (((ckT F (Zd t 0)).cal S).1.2.1.length : Nat))) t.pos 7 ((ckT F (Zd t 0)).cal S).2) i).2).1.ty _) (fun w64 g64 => ?_))))))))))))))
   have g := gtg g g64
   replace E := E.grow g64
   have hr := hr.grow (g64)
   have h := h.grow (g64)
   have hk0 := hk0.grow (g64)
   have k50 := k50.grow (g64)
   have hO := hO.grow (g64)
   refine Zn J J J (fun _ => Xqa (Zq J id)) (Yi J (fun _ => Zz (Zk J) (Zq J id)) (Zb (kq (Yv J (fun h3 => ?_) (fun h3 => ?_)))))
   ·rw [hd] at h3
    refine Zg (?_)
    obtain ⟨e0, p1, c1, hcell, hkid⟩ := Xs hk0 (i := i + 1) hlt2
    refine Zt J (Zx Zi J (Yg Zh J (E.g5.at_ J) (Zt J (Ve Zf J J (by omega) e0 (Zx Yw J (Yg Zu J (hcell.one (i := 3) J) (Ya J (Zo Yz Yo (aqc J (aqc J (aqc J aq0))) J) (Vj (Zd t (i + 1)).pos 7 h) ?_)))))))
    rintro v74 w74 ⟨rfl, h, g74⟩
    refine ⟨nw1, ?_⟩
    have g := g.trans g74
    replace E := E.gt g74 rfl
    have hr := hr.gt g74
    have k50 := k50.gt g74
    have hO := hO.gt g74 rfl
    refine Zb (kq (Zg (Zx Zi J (Yg Zh J (E.g3.at_ J) (Yk Zc J J E.g0.row (Yb _ J Zf Zm (pqc J pq0) J J ?_))))))
    intro b78 w78 N78
    have l78 := Xm N78 g.size
    have hr := hr.new N78
    have hO := hO.new N78
    have k50 := k50.new N78
    have g := gtg g N78.g
    have h := h.grow (N78.g)
    replace E := E.new N78
    have hOo := hO
    refine Ur J Zf Zm J (Zk J) hO (Zk J) J E.g0.row (Zra k50 q50 (by intro j hj; simp at hj ⊢; omega) (fun j hj => .inr (hOlt j hj))) (by simp; omega) (by have := g.size; omega) ⟨by have := g.size; omega, by have q3 := E.g6.lt; have q4 := E.g5.lt; have q5 := E.g4.lt; have q6 := E.g3.lt; have q8 := E.g2.lt; have q10 := E.g1.lt; have q78 := E.g0.lt; simp; omega⟩ ?_
    intro a79 c79 w79 hO hg79
    replace E := E.keepX hg79 hOo.ne (by simp [selB])
    have g := Qj g hg79 (fun k hk => hOo.ge k hk)
    have hr := hr.same (fun b hlt ⟨cs, fr, hh⟩ _ hx => ⟨hx, hg79.block b hlt (fun e => by obtain ⟨cs2, fr2, h2⟩ := hOo.nd b e.symm; rw [hh] at h2; injection h2 with h2; injection h2 with _ h2; exact absurd h2 (by decide))⟩)
    have h := h.keepO hg79 hOo (by omega)
    refine Zx Zi J (Vz Xb J J J E.g4 ?_)
    intro wS6 hgS6 _ BS
    have C5 := E.g4
    replace E := E.s4 hgS6 BS
    have g := Zy g hgS6 (by omega)
    first | have hr := hr.keept hgS6 C5 rfl | have hr := hr.keep hgS6 (by first | exact .inl (by omega) | simp)
    have h := h.keep hgS6 C5 rfl (by omega)
    first | have hO := hO.keept hgS6 C5 rfl | have hO := hO.keep hgS6 (by simp)
    refine Zb (kq (Zg (Zt J (Qv J J (by omega) (Zp J (Wh [(9, _, _), (0, _, _), (3, _, _), (4, _, _), (5, _, _), (7, _, _), (8, _, _)] (Za J (Za J (Za J (Za J (Za J (Za J (Za J (Zj _)))))))) (Zb (fun a ha => ?_))))))))
    exact ⟨i + 1, ha, ⟨⟨h2, by rw [ea, h3]; exact h, hr.free, _, E.g4, by rw [ea]; exact hO.sub (by intro j hj; simp at hj ⊢; omega)⟩, g⟩, (Xr (blkE E.g6) (Xr (blkE E.g5) (Xr (blkE E.g3) (Xr (blkE E.g2) (Ua _))))), by omega⟩
   rw [hd] at h3
   refine Yc (kq (Zg (Zx Zi J (Yg Zh J (E.g3.at_ J) (Yk Zc J J E.g0.row (Yb _ J Zf Zm (pqc J pq0) J J ?_))))))
   intro b78 w78 N78
   have l78 := Xm N78 g.size
   have hr := hr.new N78
   have hO := hO.new N78
   have k50 := k50.new N78
   have g := gtg g N78.g
   have h := h.grow (N78.g)
   replace E := E.new N78
   have hOo := hO
   refine Ur J Zf Zm J (Zk J) hO (Zk J) J E.g0.row (Zra k50 q50 (by intro j hj; simp at hj ⊢; omega) (fun j hj => .inr (hOlt j hj))) (by simp; omega) (by have := g.size; omega) ⟨by have := g.size; omega, by have q3 := E.g6.lt; have q4 := E.g5.lt; have q5 := E.g4.lt; have q6 := E.g3.lt; have q8 := E.g2.lt; have q10 := E.g1.lt; have q78 := E.g0.lt; simp; omega⟩ ?_
   intro a79 c79 w79 hO hg79
   replace E := E.keepX hg79 hOo.ne (by simp [selB])
   have g := Qj g hg79 (fun k hk => hOo.ge k hk)
   have hr := hr.same (fun b hlt ⟨cs, fr, hh⟩ _ hx => ⟨hx, hg79.block b hlt (fun e => by obtain ⟨cs2, fr2, h2⟩ := hOo.nd b e.symm; rw [hh] at h2; injection h2 with h2; injection h2 with _ h2; exact absurd h2 (by decide))⟩)
   have h := h.keepO hg79 hOo (by omega)
   refine Zx Zi J (Vz Xb J J J E.g4 ?_)
   intro wS7 hgS7 _ BS
   have C5 := E.g4
   replace E := E.s4 hgS7 BS
   have g := Zy g hgS7 (by omega)
   first | have hr := hr.keept hgS7 C5 rfl | have hr := hr.keep hgS7 (by first | exact .inl (by omega) | simp)
   have h := h.keep hgS7 C5 rfl (by omega)
   first | have hO := hO.keept hgS7 C5 rfl | have hO := hO.keep hgS7 (by simp)
   refine Zb (kq (Zg (Zt J (Qv J J (by omega) (Zp J (Wh [(9, _, _), (0, _, _), (3, _, _), (4, _, _), (5, _, _), (7, _, _), (8, _, _)] (Za J (Za J (Za J (Za J (Za J (Za J (Za J (Zj _)))))))) (Zb (fun a ha => ?_))))))))
   exact ⟨i + 1, ha, ⟨⟨h2, by rw [ea, h3]; exact h, hr.free, _, E.g4, by rw [ea]; exact hO.sub (by intro j hj; simp at hj ⊢; omega)⟩, g⟩, (Xr (blkE E.g6) (Xr (blkE E.g5) (Xr (blkE E.g3) (Xr (blkE E.g2) (Ua _))))), by omega⟩
  replace h2 : i = t.kids.length - 1 := by simp only [decide_eq_false_iff_not] at h2; omega
  subst h2
  refine Vq J (kq (Ze (Zg (Yk Zs J J E.g0.row (Zx Xa J (Ww J Yn (Zk J) (Zk J) J J E.g2 J J ?_))))))
  intro wS8 hgS8 _ BS
  have C5 := E.g2
  replace E := E.s2 hgS8 BS
  have g := Zy g hgS8 (by omega)
  first | have hr := hr.keept hgS8 C5 rfl | have hr := hr.keep hgS8 (by first | exact .inl (by omega) | simp)
  have h := h.keep hgS8 C5 rfl (by omega)
  first | have hO := hO.keept hgS8 C5 rfl | have hO := hO.keep hgS8 (by simp)
  refine Zb (kq (Ze (Zg (Yk Zc J J E.g2.row (Yt Zl J J J E.g3 ?_)))))
  intro wS9 hgS9 _ BS
  have C4 := E.g3
  replace E := E.s3 hgS9 BS
  have g := Zy g hgS9 (by omega)
  first | have hr := hr.keept hgS9 C4 rfl | have hr := hr.keep hgS9 (by first | exact .inl (by omega) | simp)
  have h := h.keep hgS9 C4 rfl (by omega)
  first | have hO := hO.keept hgS9 C4 rfl | have hO := hO.keep hgS9 (by simp)
  refine Zb (kq (Zr (Xj J (Yy J Zc J (E.g3.row) (Yf)) ?_)))
  have e : callR t (ckX F t) S = (annT t (((ckT F (Zd t 0)).cal S).1.1 :: (argA t (ckX F t) ((ckT F (Zd t 0)).cal S).1.2.1 (failU (decide ((t.kids.length : Int) - 1 = (((ckT F (Zd t 0)).cal S).1.2.1.length : Nat))) t.pos 7 ((ckT F (Zd t 0)).cal S).2) (t.kids.length - 1)).1) ((ckT F (Zd t 0)).cal S).1.2.2, (argA t (ckX F t) ((ckT F (Zd t 0)).cal S).1.2.1 (failU (decide ((t.kids.length : Int) - 1 = (((ckT F (Zd t 0)).cal S).1.2.1.length : Nat))) t.pos 7 ((ckT F (Zd t 0)).cal S).2) (t.kids.length - 1)).2) := by unfold callR; rw [x0]
  rw [e]; exact ⟨Xz (t := annT t _ _) rfl hO.kd, h, g⟩
 have hq : decide ((t.kids.length : Int) - 1 = (((ckT F (Zd t 0)).cal S).1.2.1.length : Nat)) = true := by simpa using h1
 have eS : ((ckT F (Zd t 0)).cal S).2 = (failU (decide ((t.kids.length : Int) - 1 = (((ckT F (Zd t 0)).cal S).1.2.1.length : Nat))) t.pos 7 ((ckT F (Zd t 0)).cal S).2) := by rw [hq]; rfl
 rw [eS] at h
 refine Yc (kq (Ze (Ze (Zg (Zp J (Zb (kq (Yu (?_)))))))))
 have hnd2 := E.1
 refine Jy (fun (i : Nat) u2 => (i + 1 ≤ t.kids.length ∧ Chk F n0 b (argA t (ckX F t) ((ckT F (Zd t 0)).cal S).1.2.1 (failU (decide ((t.kids.length : Int) - 1 = (((ckT F (Zd t 0)).cal S).1.2.1.length : Nat))) t.pos 7 ((ckT F (Zd t 0)).cal S).2) i).2 u2 ∧ RowX 0 [] u2 ((ckT F (Zd t 0)).cal S).1.2.1 (.slice pl ((ckT F (Zd t 0)).cal S).1.2.1.length cl) ∧ ∃ s, Blk u2 b5 Vd (ndCells (clnT t) s) ∧ OwnN [b3, b4, b5, b6, b8] w.heap.size u2 (((ckT F (Zd t 0)).cal S).1.1 :: (argA t (ckX F t) ((ckT F (Zd t 0)).cal S).1.2.1 (failU (decide ((t.kids.length : Int) - 1 = (((ckT F (Zd t 0)).cal S).1.2.1.length : Nat))) t.pos 7 ((ckT F (Zd t 0)).cal S).2) i).1) s) ∧ GT mutR n0 w u2) _ [(0, True, _), (3, True, _), (4, True, _), (5, True, _), (7, True, _), (8, True, _)] (fun (i : Nat) => [(9, True, .int .i64 ((i + 1 : Nat) : Int))]) (fun (i : Nat) => t.kids.length - i) (0) ⟨⟨hl, h, hr.free, _, E.g2, hO.sub (by intro j hj; simp at hj ⊢; omega)⟩, g⟩ (Xr (blkE E.g4) (Xr (blkE E.g3) (Xr (blkE E.g1) (Xr (blkE E.g0) (Ua _))))) (Za J (Za J (Za J (Za J (Za J (Za J (Za J (Zj _)))))))) ?_
 clear E
 rintro i u2 ⟨hI2, gl2⟩ ⟨B3, B4, B6, B8, _⟩
 replace B3 : Blk _ _ _ _ := B3
 replace B4 : Blk _ _ _ _ := B4
 replace B6 : Blk _ _ _ _ := B6
 replace B8 : Blk _ _ _ _ := B8
 have g := gl2
 obtain ⟨hi, h, hr, s, B5, hO⟩ := hI2
 obtain ⟨sa, sc, rfl⟩ := hO.slice
 have hk0 := hkw.gt gl2 (fun k h => h)
 have hlen : (((ckT F (Zd t 0)).cal S).1.1 :: (argA t (ckX F t) ((ckT F (Zd t 0)).cal S).1.2.1 (failU (decide ((t.kids.length : Int) - 1 = (((ckT F (Zd t 0)).cal S).1.2.1.length : Nat))) t.pos 7 ((ckT F (Zd t 0)).cal S).2) i).1).length = i + 1 := by rw [List.length_cons, Wub]
 have hl2 := Wub t (ckX F t) ((ckT F (Zd t 0)).cal S).1.2.1 (failU (decide ((t.kids.length : Int) - 1 = (((ckT F (Zd t 0)).cal S).1.2.1.length : Nat))) t.pos 7 ((ckT F (Zd t 0)).cal S).2) i
 have E := Uwa (L := [(b8, _, _), (b6, _, _), (b5, _, _), (b4, _, _), (b3, _, _)]) hnd2 ⟨B8, B6, B5, B4, B3, trivial⟩ rfl
 refine Ze (Ze (Zg (Zt J (Zx Zi J (Yg Zh J (E.g4.at_ J) (Qu Zf J (Zfa J J (Zb (kq (Yv J (fun h4 => ?_) (fun h4 => ?_)))))))))))
 ·replace h4 : i + 1 < t.kids.length := by simp only [decide_eq_true_eq] at h4; omega
  have hlt2 := h4
  obtain ⟨e0, p1, c1, hcell, hkid⟩ := Xs hk0 (i := i + 1) h4
  have Qi : CkC F Qp (Zd t (i + 1)) (ckT F (Zd t (i + 1))).ex := (K (i + 1) h4).ex (Qh hall h4)
  have xi : ckX F t (i + 1) = ckT F (Zd t (i + 1)) := Uo h4
  have hbd := (hag i).bd _ hb
  have hsc := Zqb t (i + 2)
  have hcN := Utc h4
  have hsc1 : sC t (i + 2) = sC t (i + 1) + cN t (i + 1) := rfl
  have hOlt := hO.lt
  have ei : (((i + 1 : Nat) : Int) - 1).toNat = i := by omega
  refine Yc (kq (Ze (Yu (Ze (Zg (Zt J (Zx Zi J (Yg Zh J (E.g4.at_ J) (Zt J (Ve Zf J J (by omega) e0 (Yk Zc J J hcell (Ya J (Zo Wn Yo (aqc J (aqc J aq0)) J) (CkC.to Qi [b3, b4, b5, b6, b8] h hkid hbd (by omega) (E.ltm (by simp [selB])) g.size) ?_))))))))))))
  rintro v50 w50 ⟨⟨p50, c50, rfl, q50, k50⟩, h, g50⟩
  refine ⟨nw1, ?_⟩
  have g := g.trans g50
  replace E := E.gt g50 rfl
  have hr := hr.gt g50
  have hk0 := hk0.gt g50 (fun k h => h)
  have hO := hO.gt g50 rfl
  have hd : decide (((i + 1 : Nat) : Int) - 1 < (((ckT F (Zd t 0)).cal S).1.2.1.length : Nat)) = decide (i < ((ckT F (Zd t 0)).cal S).1.2.1.length) := by rw [decide_eq_decide]; omega
  have ea : argA t (ckX F t) ((ckT F (Zd t 0)).cal S).1.2.1 (failU (decide ((t.kids.length : Int) - 1 = (((ckT F (Zd t 0)).cal S).1.2.1.length : Nat))) t.pos 7 ((ckT F (Zd t 0)).cal S).2) (i + 1) = ((argA t (ckX F t) ((ckT F (Zd t 0)).cal S).1.2.1 (failU (decide ((t.kids.length : Int) - 1 = (((ckT F (Zd t 0)).cal S).1.2.1.length : Nat))) t.pos 7 ((ckT F (Zd t 0)).cal S).2) i).1 ++ [((ckT F (Zd t (i + 1))).ex (argA t (ckX F t) ((ckT F (Zd t 0)).cal S).1.2.1 (failU (decide ((t.kids.length : Int) - 1 = (((ckT F (Zd t 0)).cal S).1.2.1.length : Nat))) t.pos 7 ((ckT F (Zd t 0)).cal S).2) i).2).1], failU (!(decide (i < ((ckT F (Zd t 0)).cal S).1.2.1.length) && !Ub (((ckT F (Zd t 0)).cal S).1.2.1.getD i ty0) ((ckT F (Zd t (i + 1))).ex (argA t (ckX F t) ((ckT F (Zd t 0)).cal S).1.2.1 (failU (decide ((t.kids.length : Int) - 1 = (((ckT F (Zd t 0)).cal S).1.2.1.length : Nat))) t.pos 7 ((ckT F (Zd t 0)).cal S).2) i).2).1.ty)) (Zd t (i + 1)).pos 7 ((ckT F (Zd t (i + 1))).ex (argA t (ckX F t) ((ckT F (Zd t 0)).cal S).1.2.1 (failU (decide ((t.kids.length : Int) - 1 = (((ckT F (Zd t 0)).cal S).1.2.1.length : Nat))) t.pos 7 ((ckT F (Zd t 0)).cal S).2) i).2).2) := by
   show ((argA t (ckX F t) ((ckT F (Zd t 0)).cal S).1.2.1 (failU (decide ((t.kids.length : Int) - 1 = (((ckT F (Zd t 0)).cal S).1.2.1.length : Nat))) t.pos 7 ((ckT F (Zd t 0)).cal S).2) i).1 ++ [((ckX F t (i + 1)).ex (argA t (ckX F t) ((ckT F (Zd t 0)).cal S).1.2.1 (failU (decide ((t.kids.length : Int) - 1 = (((ckT F (Zd t 0)).cal S).1.2.1.length : Nat))) t.pos 7 ((ckT F (Zd t 0)).cal S).2) i).2).1], _) = _
   rw [xi]
  refine Yh J Zm J ?_
  intro b10 w10 N10
  have l10 := Xm N10 g.size
  have hr := hr.new N10
  have hO := hO.new N10
  have k50 := k50.new N10
  have g := gtg g N10.g
  have h := h.grow (N10.g)
  have hk0 := hk0.grow (N10.g)
  replace E := E.new N10
  refine Yt Zl J J J E.g0 ?_
  intro wS10 hgS10 _ BS
  have C10 := E.g0
  replace E := E.s0 hgS10 BS
  have g := Zy g hgS10 (by omega)
  first | have hr := hr.keept hgS10 C10 rfl | have hr := hr.keep hgS10 (by first | exact .inl (by omega) | simp)
  have h := h.keep hgS10 C10 rfl (by omega)
  have hk0 := hk0.keep hgS10 (fun k hk _ e => by injection e with e; omega)
  have k50 := k50.keep hgS10 (by simp)
  first | have hO := hO.keept hgS10 C10 rfl | have hO := hO.keep hgS10 (by simp)
  refine Zb (kq (Ze (Ze (Wr [3, 3, 3, 3, 3, 3, 3, 3, 3, 3, 0, 3, 0, 1, 3, 3] [true, true, true, true, true, true, true, true, true, true, true, true, true, true, true, true] [0, 1, 0, 4, 15, 31, 63, 63, 191, 511, 1023, 63, 2111, 8191, 16383, 32767] mix (by kernel_rfl) ?_))))
  have g := gtd g
  replace E := E.dr
  have hr := hr.grow (G.drew _)
  have h := h.grow (G.drew _)
  have hk0 := hk0.grow (G.drew _)
  have k50 := k50.grow (G.drew _)
  have hO := hO.grow (G.drew _)
  refine Zt J (Yi J (fun _ => Xxa (Zk J) Xy (fun _ => by omega)) (Zt J (Qu Un J (Zfa J J (Zt J (Zn J J J (fun _ => Yl (Zk J)) (Zn J J J (fun _ => Yl (Zk J)) (Zn J J J (fun _ => Xxa (Zq J id) Xy (fun _ => by omega)) (Zn J J J (fun _ => Wj Un (Zq J id) (Zq J id) (fun hc => by have := of_decide_eq_true hc.2; omega) (fun hc => (Uxc hr (i := i) (by have := of_decide_eq_true hc.2; omega)).1)) (Yj J J J (Xd Zs (Zq J id) J (fun hc => by rw [ei]; exact Uzd hr (i := i) (by have := of_decide_eq_true hc.2; omega))) (Zn J J J (fun _ => Zv Xa (Zk J)) (Yj J J J (Xd Zs (Zq J id) J (fun _ => E.g0.row.part 5 2)) (We J J J (fun _ => (Zo Jf Yo (Xf (Zq J id) (Xf (Zq J id) (Xw))) J)) (fun hc => Xya (((ckT F (Zd t 0)).cal S).1.2.1.getD i ty0) ((ckT F (Zd t (i + 1))).ex (argA t (ckX F t) ((ckT F (Zd t 0)).cal S).1.2.1 (failU (decide ((t.kids.length : Int) - 1 = (((ckT F (Zd t 0)).cal S).1.2.1.length : Nat))) t.pos 7 ((ckT F (Zd t 0)).cal S).2) i).2).1.ty _) (fun w64 g64 => ?_))))))))))))))
  have g := gtg g g64
  replace E := E.grow g64
  have hr := hr.grow (g64)
  have h := h.grow (g64)
  have hk0 := hk0.grow (g64)
  have k50 := k50.grow (g64)
  have hO := hO.grow (g64)
  refine Zn J J J (fun _ => Xqa (Zq J id)) (Yi J (fun _ => Zz (Zk J) (Zq J id)) (Zb (kq (Yv J (fun h5 => ?_) (fun h5 => ?_)))))
  ·rw [hd] at h5
   refine Zg (?_)
   obtain ⟨e0, p1, c1, hcell, hkid⟩ := Xs hk0 (i := i + 1) hlt2
   refine Zt J (Zx Zi J (Yg Zh J (E.g5.at_ J) (Zt J (Ve Zf J J (by omega) e0 (Zx Yw J (Yg Zu J (hcell.one (i := 3) J) (Ya J (Zo Yz Yo (aqc J (aqc J (aqc J aq0))) J) (Vj (Zd t (i + 1)).pos 7 h) ?_)))))))
   rintro v74 w74 ⟨rfl, h, g74⟩
   refine ⟨nw1, ?_⟩
   have g := g.trans g74
   replace E := E.gt g74 rfl
   have hr := hr.gt g74
   have k50 := k50.gt g74
   have hO := hO.gt g74 rfl
   refine Zb (kq (Zg (Zx Zi J (Yg Zh J (E.g3.at_ J) (Yk Zc J J E.g0.row (Yb _ J Zf Zm (pqc J pq0) J J ?_))))))
   intro b78 w78 N78
   have l78 := Xm N78 g.size
   have hr := hr.new N78
   have hO := hO.new N78
   have k50 := k50.new N78
   have g := gtg g N78.g
   have h := h.grow (N78.g)
   replace E := E.new N78
   have hOo := hO
   refine Ur J Zf Zm J (Zk J) hO (Zk J) J E.g0.row (Zra k50 q50 (by intro j hj; simp at hj ⊢; omega) (fun j hj => .inr (hOlt j hj))) (by simp; omega) (by have := g.size; omega) ⟨by have := g.size; omega, by have q3 := E.g6.lt; have q4 := E.g5.lt; have q5 := E.g4.lt; have q6 := E.g3.lt; have q8 := E.g2.lt; have q10 := E.g1.lt; have q78 := E.g0.lt; simp; omega⟩ ?_
   intro a79 c79 w79 hO hg79
   replace E := E.keepX hg79 hOo.ne (by simp [selB])
   have g := Qj g hg79 (fun k hk => hOo.ge k hk)
   have hr := hr.same (fun b hlt ⟨cs, fr, hh⟩ _ hx => ⟨hx, hg79.block b hlt (fun e => by obtain ⟨cs2, fr2, h2⟩ := hOo.nd b e.symm; rw [hh] at h2; injection h2 with h2; injection h2 with _ h2; exact absurd h2 (by decide))⟩)
   have h := h.keepO hg79 hOo (by omega)
   refine Zx Zi J (Vz Xb J J J E.g4 ?_)
   intro wS11 hgS11 _ BS
   have C5 := E.g4
   replace E := E.s4 hgS11 BS
   have g := Zy g hgS11 (by omega)
   first | have hr := hr.keept hgS11 C5 rfl | have hr := hr.keep hgS11 (by first | exact .inl (by omega) | simp)
   have h := h.keep hgS11 C5 rfl (by omega)
   first | have hO := hO.keept hgS11 C5 rfl | have hO := hO.keep hgS11 (by simp)
   refine Zb (kq (Zg (Zt J (Qv J J (by omega) (Zp J (Wh [(9, _, _), (0, _, _), (3, _, _), (4, _, _), (5, _, _), (7, _, _), (8, _, _)] (Za J (Za J (Za J (Za J (Za J (Za J (Za J (Zj _)))))))) (Zb (fun a ha => ?_))))))))
   exact ⟨i + 1, ha, ⟨⟨h4, by rw [ea, h5]; exact h, hr.free, _, E.g4, by rw [ea]; exact hO.sub (by intro j hj; simp at hj ⊢; omega)⟩, g⟩, (Xr (blkE E.g6) (Xr (blkE E.g5) (Xr (blkE E.g3) (Xr (blkE E.g2) (Ua _))))), by omega⟩
  rw [hd] at h5
  refine Yc (kq (Zg (Zx Zi J (Yg Zh J (E.g3.at_ J) (Yk Zc J J E.g0.row (Yb _ J Zf Zm (pqc J pq0) J J ?_))))))
  intro b78 w78 N78
  have l78 := Xm N78 g.size
  have hr := hr.new N78
  have hO := hO.new N78
  have k50 := k50.new N78
  have g := gtg g N78.g
  have h := h.grow (N78.g)
  replace E := E.new N78
  have hOo := hO
  refine Ur J Zf Zm J (Zk J) hO (Zk J) J E.g0.row (Zra k50 q50 (by intro j hj; simp at hj ⊢; omega) (fun j hj => .inr (hOlt j hj))) (by simp; omega) (by have := g.size; omega) ⟨by have := g.size; omega, by have q3 := E.g6.lt; have q4 := E.g5.lt; have q5 := E.g4.lt; have q6 := E.g3.lt; have q8 := E.g2.lt; have q10 := E.g1.lt; have q78 := E.g0.lt; simp; omega⟩ ?_
  intro a79 c79 w79 hO hg79
  replace E := E.keepX hg79 hOo.ne (by simp [selB])
  have g := Qj g hg79 (fun k hk => hOo.ge k hk)
  have hr := hr.same (fun b hlt ⟨cs, fr, hh⟩ _ hx => ⟨hx, hg79.block b hlt (fun e => by obtain ⟨cs2, fr2, h2⟩ := hOo.nd b e.symm; rw [hh] at h2; injection h2 with h2; injection h2 with _ h2; exact absurd h2 (by decide))⟩)
  have h := h.keepO hg79 hOo (by omega)
  refine Zx Zi J (Vz Xb J J J E.g4 ?_)
  intro wS12 hgS12 _ BS
  have C5 := E.g4
  replace E := E.s4 hgS12 BS
  have g := Zy g hgS12 (by omega)
  first | have hr := hr.keept hgS12 C5 rfl | have hr := hr.keep hgS12 (by first | exact .inl (by omega) | simp)
  have h := h.keep hgS12 C5 rfl (by omega)
  first | have hO := hO.keept hgS12 C5 rfl | have hO := hO.keep hgS12 (by simp)
  refine Zb (kq (Zg (Zt J (Qv J J (by omega) (Zp J (Wh [(9, _, _), (0, _, _), (3, _, _), (4, _, _), (5, _, _), (7, _, _), (8, _, _)] (Za J (Za J (Za J (Za J (Za J (Za J (Za J (Zj _)))))))) (Zb (fun a ha => ?_))))))))
  exact ⟨i + 1, ha, ⟨⟨h4, by rw [ea, h5]; exact h, hr.free, _, E.g4, by rw [ea]; exact hO.sub (by intro j hj; simp at hj ⊢; omega)⟩, g⟩, (Xr (blkE E.g6) (Xr (blkE E.g5) (Xr (blkE E.g3) (Xr (blkE E.g2) (Ua _))))), by omega⟩
 replace h4 : i = t.kids.length - 1 := by simp only [decide_eq_false_iff_not] at h4; omega
 subst h4
 refine Vq J (kq (Ze (Zg (Yk Zs J J E.g0.row (Zx Xa J (Ww J Yn (Zk J) (Zk J) J J E.g2 J J ?_))))))
 intro wS13 hgS13 _ BS
 have C5 := E.g2
 replace E := E.s2 hgS13 BS
 have g := Zy g hgS13 (by omega)
 first | have hr := hr.keept hgS13 C5 rfl | have hr := hr.keep hgS13 (by first | exact .inl (by omega) | simp)
 have h := h.keep hgS13 C5 rfl (by omega)
 first | have hO := hO.keept hgS13 C5 rfl | have hO := hO.keep hgS13 (by simp)
 refine Zb (kq (Ze (Zg (Yk Zc J J E.g2.row (Yt Zl J J J E.g3 ?_)))))
 intro wS14 hgS14 _ BS
 have C4 := E.g3
 replace E := E.s3 hgS14 BS
 have g := Zy g hgS14 (by omega)
 first | have hr := hr.keept hgS14 C4 rfl | have hr := hr.keep hgS14 (by first | exact .inl (by omega) | simp)
 have h := h.keep hgS14 C4 rfl (by omega)
 first | have hO := hO.keept hgS14 C4 rfl | have hO := hO.keep hgS14 (by simp)
 refine Zb (kq (Zr (Xj J (Yy J Zc J (E.g3.row) (Yf)) ?_)))
 have e : callR t (ckX F t) S = (annT t (((ckT F (Zd t 0)).cal S).1.1 :: (argA t (ckX F t) ((ckT F (Zd t 0)).cal S).1.2.1 (failU (decide ((t.kids.length : Int) - 1 = (((ckT F (Zd t 0)).cal S).1.2.1.length : Nat))) t.pos 7 ((ckT F (Zd t 0)).cal S).2) (t.kids.length - 1)).1) ((ckT F (Zd t 0)).cal S).1.2.2, (argA t (ckX F t) ((ckT F (Zd t 0)).cal S).1.2.1 (failU (decide ((t.kids.length : Int) - 1 = (((ckT F (Zd t 0)).cal S).1.2.1.length : Nat))) t.pos 7 ((ckT F (Zd t 0)).cal S).2) (t.kids.length - 1)).2) := by unfold callR; rw [x0]
 rw [e]; exact ⟨Xz (t := annT t _ _) rfl hO.kd, h, g⟩
set_option maxHeartbeats 2000000
theorem Xna (t : Nd) {v : Value} {D : Nat → Prop} {w : World} {m0 : Nat} (Z : List Nat) (hk : Kd w D t.kids v) (hc : count t ≤ 1000000) (hZ : ∀ j ∈ Z, j < w.heap.size) (hm : m0 ≤ w.heap.size) : Ret PP Ydc #[ndV t v] w fun r w' => (∃ p c, r = ndV (plainT t) (.slice p (plainT t).kids.length c) ∧ m0 ≤ w.heap.size ∧ KdX w.heap.size Z w' (plainT t).kids (.slice p (plainT t).kids.length c)) ∧ G w w' :=
 (Zff t v D w hk hc).mono fun r w' hr => by
  obtain ⟨⟨p, c, e, k⟩, h1⟩ := hr
  exact ⟨⟨p, c, e, hm, KdN.x k hZ⟩, h1⟩
theorem Vlf {t : Nd} (hx : stmtB t = true) (h1 : t.kind ≠ 10) (h2 : t.kind ≠ 18) (h3 : t.kind ≠ 12) (h4 : t.kind ≠ 22) (h5 : t.kind ≠ 6) (h6 : t.kind ≠ 11) (h7 : t.kind ≠ 19) (h8 : t.kind ≠ 20) : 1 ≤ t.kids.length ∧ exprB (Zd t 0) = true := by
 rcases Ufe hx with k | k | k | k | k | k | k | k | k | k | k | k | k | k
 ·exact absurd k h5
 ·exact absurd k h1
 ·exact absurd k h6
 ·exact absurd k h3
 ·obtain ⟨q, r⟩ := sh13 k hx; exact ⟨by omega, r⟩
 ·obtain ⟨q, r⟩ := sh14 k hx; exact ⟨by omega, r⟩
 ·obtain ⟨q, r⟩ := sh15 k hx; exact ⟨by omega, r⟩
 ·obtain ⟨q, r, _⟩ := sh16 k hx; exact ⟨by omega, r⟩
 ·obtain ⟨q, r⟩ := sh17 k hx; exact ⟨by omega, r⟩
 ·obtain ⟨q, r⟩ := sh21 k hx; exact ⟨by omega, r⟩
 ·exact absurd k h2
 ·exact absurd k h4
 ·exact absurd k h8
 ·exact absurd k h7
theorem Zrf {F t : Nd} (K : ∀ i, i < t.kids.length → CkOk F (Zd t i)) (HB : blockB t = true → CkC F Zoa t (ckT F t).blk) (HI : ifB t = true → CkC F Zka t (ckT F t).ifs)
  (HS : t.kind = 22 → CkC F Xoa t (selR t (ckX F t))) (hx : stmtB t = true) : CkC F Zva t (ckT F t).st := by
 intro n0 b S w v N h hk0 hb hcn
 have est : (ckT F t).st S = stR F t (ckX F t) S := by rw [Qw]; rfl
 rw [est]
 obtain ⟨p, c, rfl, _⟩ := id hk0
 have hlt := h.lt
 have hln := Qt t
 have ct := Jo t
 have g := GT.refl mutR n0 w
 refine Yp (m := 263) Xbb J J [(0, True, _), (1, True, _)] (Za J (Za J (Zj _))) ?_
 refine Ze (Zg (Wq J (Zk J) J ?_))
 intro b3 w3 N3
 have l3 := Xm N3 g.size
 have g := gtg g N3.g
 have h := h.grow (N3.g)
 have hk0 := hk0.grow (N3.g)
 have E := (Wo _).new N3
 refine Yh J Zm J ?_
 intro b4 w4 N4
 have l4 := Xm N4 g.size
 have g := gtg g N4.g
 have h := h.grow (N4.g)
 have hk0 := hk0.grow (N4.g)
 replace E := E.new N4
 refine Zb (kq (Ze (Zg (Yk Zc J J E.g1.row (Ya J (Zo Vg Yo (aqc J aq0) J) (Uw t _ _ _) ?_)))))
 rintro v13 w13 ⟨rfl, g13⟩
 refine ⟨fun _ => g13, ?_⟩
 have g := gtg g g13
 replace E := E.grow g13
 have h := h.grow (g13)
 have hk0 := hk0.grow (g13)
 refine Yh J Zm J ?_
 intro b5 w5 N5
 have l5 := Xm N5 g.size
 have g := gtg g N5.g
 have h := h.grow (N5.g)
 have hk0 := hk0.grow (N5.g)
 replace E := E.new N5
 refine Yt Zl J J J E.g0 ?_
 intro wS1 hgS1 _ BS
 have C5 := E.g0
 replace E := E.s0 hgS1 BS
 have g := Zy g hgS1 (by omega)
 have h := h.keep hgS1 C5 rfl (by omega)
 have hk0 := hk0.keep hgS1 (fun k hk _ e => by injection e with e; omega)
 refine Zb (kq (Ze (Ze (Zg (Zx Yd J (Yg Zu J (E.g2.at_ J) (Zb (kq (Yu (Ze (Zg (Xt J J (Zp J (Zb (kq (Yv J (fun h1 => ?_) (fun h1 => ?_)))))))))))))))))
 ·replace h1 : t.kind = 10 := of_decide_eq_true h1
  refine Ze (Zg (Zt J (Yk Zc J J E.g2.row (Ya J (Zo Ju Yo (aqc J (aqc J aq0)) J) (CkC.to (HB (sh10s h1 hx)) [b3, b4, b5] h hk0 hb hcn (E.ltm (by simp [selB])) g.size) ?_))))
  rintro v20 w20 ⟨⟨p20, c20, rfl, q20, k20⟩, h, g20⟩
  refine ⟨nw1, ?_⟩
  have g := g.trans g20
  replace E := E.gt g20 rfl
  refine Yt Zl J J J E.g1 ?_
  intro wS2 hgS2 _ BS
  have C4 := E.g1
  replace E := E.s1 hgS2 BS
  have g := Zy g hgS2 (by omega)
  have h := h.keep hgS2 C4 rfl (by omega)
  have k20 := k20.keep hgS2 (by simp)
  refine Zb (kq (Zr (Xj J (Yy J Zc J (E.g1.row) (Yf)) ?_)))
  have e : stR F t (ckX F t) S = (ckT F t).blk S := by unfold stR; rw [Yfg h1, Qw F t]; rfl
  rw [e]; exact ⟨Xz rfl (k20.kdN q20), h, g⟩
 replace h1 : t.kind ≠ 10 := of_decide_eq_false h1
 refine Ze (Zg (Xt J J (Zp J (Zb (kq (Yv J (fun h2 => ?_) (fun h2 => ?_)))))))
 ·replace h2 : t.kind = 18 := of_decide_eq_true h2
  refine Ze (Zg (Zt J (Yk Zc J J E.g2.row (Ya J (Zo Wva Yo (aqc J (aqc J aq0)) J) (CkC.to (HI (sh18s h2 hx)) [b3, b4, b5] h hk0 hb hcn (E.ltm (by simp [selB])) g.size) ?_))))
  rintro v25 w25 ⟨⟨p25, c25, rfl, q25, k25⟩, h, g25⟩
  refine ⟨nw1, ?_⟩
  have g := g.trans g25
  replace E := E.gt g25 rfl
  refine Yt Zl J J J E.g1 ?_
  intro wS3 hgS3 _ BS
  have C4 := E.g1
  replace E := E.s1 hgS3 BS
  have g := Zy g hgS3 (by omega)
  have h := h.keep hgS3 C4 rfl (by omega)
  have k25 := k25.keep hgS3 (by simp)
  refine Zb (kq (Zr (Xj J (Yy J Zc J (E.g1.row) (Yf)) ?_)))
  have e : stR F t (ckX F t) S = (ckT F t).ifs S := by unfold stR; rw [Yeg h1, Yfg h2, Qw F t]; rfl
  rw [e]; exact ⟨Xz rfl (k25.kdN q25), h, g⟩
 replace h2 : t.kind ≠ 18 := of_decide_eq_false h2
 refine Ze (Zg (Xt J J (Zp J (Zb (kq (Yv J (fun h3 => ?_) (fun h3 => ?_)))))))
 ·replace h3 : t.kind = 12 := of_decide_eq_true h3
  refine Ze (Zg (Zt J (Yk Zc J J E.g2.row (Ya J (Zo Xdb Yo (aqc J (aqc J aq0)) J) (CkC.to (Uud K h3 hx) [b3, b4, b5] h hk0 hb hcn (E.ltm (by simp [selB])) g.size) ?_))))
  rintro v30 w30 ⟨⟨p30, c30, rfl, q30, k30⟩, h, g30⟩
  refine ⟨nw1, ?_⟩
  have g := g.trans g30
  replace E := E.gt g30 rfl
  refine Yt Zl J J J E.g1 ?_
  intro wS4 hgS4 _ BS
  have C4 := E.g1
  replace E := E.s1 hgS4 BS
  have g := Zy g hgS4 (by omega)
  have h := h.keep hgS4 C4 rfl (by omega)
  have k30 := k30.keep hgS4 (by simp)
  refine Zb (kq (Zr (Xj J (Yy J Zc J (E.g1.row) (Yf)) ?_)))
  have hl := (sh12 h3 hx).1
  have e : stR F t (ckX F t) S = asgR t (ckY F t) S := by
   unfold stR; rw [Yeg h1, Yeg h2, Yfg h3]
   show asgR t (ckX F t) S = _
   unfold asgR; rw [Uo (show 0 < t.kids.length by omega), Uo (show 1 < t.kids.length by omega)]; rfl
  rw [e]; exact ⟨Xz rfl (k30.kdN q30), h, g⟩
 replace h3 : t.kind ≠ 12 := of_decide_eq_false h3
 refine Ze (Zg (Xt J J (Zp J (Zb (kq (Yv J (fun h4 => ?_) (fun h4 => ?_)))))))
 ·replace h4 : t.kind = 22 := of_decide_eq_true h4
  refine Ze (Zg (Zt J (Yk Zc J J E.g2.row (Ya J (Zo Qma Yo (aqc J (aqc J aq0)) J) (CkC.to (HS h4) [b3, b4, b5] h hk0 hb hcn (E.ltm (by simp [selB])) g.size) ?_))))
  rintro v35 w35 ⟨⟨p35, c35, rfl, q35, k35⟩, h, g35⟩
  refine ⟨nw1, ?_⟩
  have g := g.trans g35
  replace E := E.gt g35 rfl
  refine Yt Zl J J J E.g1 ?_
  intro wS5 hgS5 _ BS
  have C4 := E.g1
  replace E := E.s1 hgS5 BS
  have g := Zy g hgS5 (by omega)
  have h := h.keep hgS5 C4 rfl (by omega)
  have k35 := k35.keep hgS5 (by simp)
  refine Zb (kq (Zr (Xj J (Yy J Zc J (E.g1.row) (Yf)) ?_)))
  have e : stR F t (ckX F t) S = selR t (ckX F t) S := by unfold stR; rw [Yeg h1, Yeg h2, Yeg h3, Yfg h4]; rfl
  rw [e]; exact ⟨Xz rfl (k35.kdN q35), h, g⟩
 replace h4 : t.kind ≠ 22 := of_decide_eq_false h4
 refine Ze (Zg (Xt J J (Zp J (Zb (kq (Yv J (fun h5 => ?_) (fun h5 => ?_)))))))
 ·replace h5 : t.kind = 6 := of_decide_eq_true h5
  obtain ⟨_, hl, hty, hv6⟩ := sh6 (sh6s h5 hx)
  have hc2 := cn2 hl
  have c0 := Jo (Zd t 0)
  have Q1 := K 1 (by omega)
  have hbl := (Xma F (Zd t 0) S).bd _ hb
  have hbv := (((Uba F (Zd t 1)).ex (localS F (Zd t 0) S)).failu (Ub (ofF (Zd t 0)).1 ((ckT F (Zd t 1)).ex (localS F (Zd t 0) S)).1.ty) (Zd t 1).pos 7).bd _ hbl
  refine Ze (Zg (Zt J (Zx Zi J (Yg Zh J (E.g2.at_ J) (?_)))))
  obtain ⟨hpe, p_41, c_41, hcell, hkid⟩ := Xs hk0 (i := 0) (by omega)
  refine Ve Zf J J (by omega) hpe (Yk Zc J J hcell (Ya J (Zo Yza Yo (aqc J (aqc J aq0)) J) (Zvc (Zd t 0) _ _ h) ?_))
  rintro v43 w43 ⟨rfl, h, g43⟩
  refine ⟨nw1, ?_⟩
  have g := g.trans g43
  replace E := E.gt g43 rfl
  have hk0 := hk0.gt g43 (fun k h => h)
  refine Yh J Yq J ?_
  intro b6 w6 N6
  have l6 := Xm N6 g.size
  have g := gtg g N6.g
  have h := h.grow (N6.g)
  have hk0 := hk0.grow (N6.g)
  replace E := E.new N6
  refine Yt Yn J J J E.g0 ?_
  intro wS6 hgS6 _ BS
  have C6 := E.g0
  replace E := E.s0 hgS6 BS
  have g := Zy g hgS6 (by omega)
  have h := h.keep hgS6 C6 rfl (by omega)
  have hk0 := hk0.keep hgS6 (fun k hk _ e => by injection e with e; omega)
  refine Zb (kq (Ze (Zg (Zx Zi J (Yg Zh J (E.g3.at_ J) (?_))))))
  obtain ⟨hpe, p_46, c_46, hcell, hkid⟩ := Xs hk0 (i := 1) (by omega)
  refine Ve Zf J J (by omega) hpe (Yk Zc J J hcell (Ya J (Zo Vg Yo (aqc J aq0) J) (Uw (Zd t 1) _ _ _) ?_))
  rintro v48 w48 ⟨rfl, g48⟩
  refine ⟨fun _ => g48, ?_⟩
  have g := gtg g g48
  replace E := E.grow g48
  have h := h.grow (g48)
  have hk0 := hk0.grow (g48)
  refine Yh J Zm J ?_
  intro b7 w7 N7
  have l7 := Xm N7 g.size
  have g := gtg g N7.g
  have h := h.grow (N7.g)
  have hk0 := hk0.grow (N7.g)
  replace E := E.new N7
  refine Yt Zl J J J E.g0 ?_
  intro wS7 hgS7 _ BS
  have C7 := E.g0
  replace E := E.s0 hgS7 BS
  have g := Zy g hgS7 (by omega)
  have h := h.keep hgS7 C7 rfl (by omega)
  have hk0 := hk0.keep hgS7 (fun k hk _ e => by injection e with e; omega)
  refine Zb (kq (Ze (Ze (Zg (Zx Zi J (Yg Zh J (E.g4.at_ J) (?_)))))))
  obtain ⟨hpe, p_51, c_51, hcell, hkid⟩ := Xs hk0 (i := 1) (by omega)
  refine Ve Zf J J (by omega) hpe (Zx Yd J (Yg Zu J (hcell.one (i := 0) J) (Wja J J (Zb (kq (Yv J (fun h6 => ?_) (fun h6 => ?_)))))))
  ·replace h6 : (Zd t 1).kind ≠ 9 := by simpa using h6
   have he1 : exprB (Zd t 1) = true := hv6.resolve_left fun h => h6 (Uia h).1
   refine Ze (Zg (Zt J (Zx Zi J (Yg Zh J (E.g4.at_ J) (?_)))))
   obtain ⟨hpe, p_58, c_58, hcell, hkid⟩ := Xs hk0 (i := 1) (by omega)
   refine Ve Zf J J (by omega) hpe (Yk Zc J J hcell (Ya J (Zo Wn Yo (aqc J (aqc J aq0)) J) (CkC.to (Q1.ex he1) [b3, b4, b5, b6, b7] h hkid hbl (by omega) (E.ltm (by simp [selB])) g.size) ?_))
   rintro v60 w60 ⟨⟨p60, c60, rfl, q60, k60⟩, h, g60⟩
   refine ⟨nw1, ?_⟩
   have g := g.trans g60
   replace E := E.gt g60 rfl
   have hk0 := hk0.gt g60 (fun k h => h)
   refine Yt Zl J J J E.g0 ?_
   intro wS8 hgS8 _ BS
   have C7 := E.g0
   replace E := E.s0 hgS8 BS
   have g := Zy g hgS8 (by omega)
   have h := h.keep hgS8 C7 rfl (by omega)
   have hk0 := hk0.keep hgS8 (fun k hk _ e => by injection e with e; omega)
   have k60 := k60.keep hgS8 (by simp)
   refine Zb (kq (Ze (Zg (Yk Zs J J E.g1.row (Zx Xa J (Yk Zs J J (E.g0.row.part 5 2) (Xk J (Zo Jf Yo (aqc J (aqc J aq0)) J) (Xya _ _ _) (fun w64 g64 => ?_))))))))
   have g := gtg g g64
   replace E := E.grow g64
   have h := h.grow (g64)
   have hk0 := hk0.grow (g64)
   have k60 := k60.grow (g64)
   refine Wia J (Zb (kq (Yv J (fun h7 => ?_) (fun h7 => ?_))))
   ·have hr : Ub (ofF (Zd t 0)).1 ((ckT F (Zd t 1)).ex (localS F (Zd t 0) S)).1.ty = false := by simpa using h7
    refine Zg (Zt J (Zx Zi J (Yg Zh J (E.g4.at_ J) (?_))))
    obtain ⟨hpe, p_69, c_69, hcell, hkid⟩ := Xs hk0 (i := 1) (by omega)
    refine Ve Zf J J (by omega) hpe (Zx Yw J (Yg Zu J (hcell.one (i := 3) J) (Ya J (Zo Yz Yo (aqc J (aqc J (aqc J aq0))) J) (Vj (Zd t 1).pos 7 h) ?_)))
    rintro v72 w72 ⟨rfl, h, g72⟩
    refine ⟨nw1, ?_⟩
    have g := g.trans g72
    replace E := E.gt g72 rfl
    have hk0 := hk0.gt g72 (fun k h => h)
    have k60 := k60.gt g72
    have eT : failS (Zd t 1).pos 7 ((ckT F (Zd t 1)).ex (localS F (Zd t 0) S)).2 = failU (Ub (ofF (Zd t 0)).1 ((ckT F (Zd t 1)).ex (localS F (Zd t 0) S)).1.ty) (Zd t 1).pos 7 ((ckT F (Zd t 1)).ex (localS F (Zd t 0) S)).2 := by rw [hr]; rfl
    rw [eT] at h
    refine Zb (kq (Ze (?_)))
    skip
    refine Wr [3, 0, 3, 0, 1, 0, 1, 3, 2] [true, true, true, true, true, false, true, true, true] [0, 1, 3, 7, 15, 0, 63, 127, 255] mix (by kernel_rfl) ?_
    have g := gtd g
    replace E := E.dr
    have h := h.grow (G.drew _)
    have hk0 := hk0.grow (G.drew _)
    have k60 := k60.grow (G.drew _)
    have EC := E
    refine Zx Zi J (Yg Zh J (E.g4.at_ J) (?_))
    obtain ⟨hpe, p_75, c_75, hcell, hkid⟩ := Xs hk0 (i := 0) (by omega)
    refine Ve Zf J J (by omega) hpe (Yk Zc J J hcell (Ya J (Zo Jz Yo (aqc J aq0) J) (Xna (Zd t 0) [b3, b4, b5, b6, b7] hkid (by omega) (E.ltm (by simp [selB])) g.size) ?_))
    rintro v77 w77 ⟨⟨p77, c77, rfl, q77, k77⟩, g77⟩
    refine ⟨fun _ => g77, ?_⟩
    have g := gtg g g77
    replace E := E.grow g77
    have h := h.grow (g77)
    have k60 := k60.grow (g77)
    refine Vua J (Xd Zc (Zk J) J (fun _ => EC.g0.row)) (Yb _ J Zf Zm (pqc J (pqc J pq0)) J J ?_)
    intro b79 w79 N79
    have l79 := Xm N79 g.size
    have k60 := k60.new N79
    have k77 := k77.new N79
    have g := gtg g N79.g
    have h := h.grow (N79.g)
    replace E := E.new N79
    refine Zx Zi J (Vz Xb J J J E.g3 ?_)
    intro wS9 hgS9 _ BS
    have C5 := E.g3
    replace E := E.s3 hgS9 BS
    have g := Zy g hgS9 (by omega)
    have h := h.keep hgS9 C5 rfl (by omega)
    have k60 := k60.keep hgS9 (by simp)
    have k77 := k77.keep hgS9 (by simp)
    refine Zb (kq (Ze (Zg (Zx Uj J (Vz Vb J J J E.g3 ?_)))))
    intro wS10 hgS10 _ BS
    have C5 := E.g3
    replace E := E.s3 hgS10 BS
    have g := Zy g hgS10 (by omega)
    have h := h.keep hgS10 C5 rfl (by omega)
    have k60 := k60.keep hgS10 (by simp)
    have k77 := k77.keep hgS10 (by simp)
    refine Zb (kq (Ze (Zg (Zt J (Zx Ym J (Yg Yr J (E.g5.at_ J) (Yk Zs J J E.g2.row (Zx Yw J (Yg Zu J (E.g5.at_ J) (Ya J (Zo Ql Yo (aqc J (aqc J (aqc J (aqc J aq0)))) J) (Wga t.text (ofF (Zd t 0)).1 t.pos h (by first | exact hbv | exact hbl) (by omega)) ?_))))))))))
    rintro v88 w88 ⟨rfl, h, g88⟩
    refine ⟨nw1, ?_⟩
    have g := g.trans g88
    replace E := E.gt g88 rfl
    have k60 := k60.gt g88
    have k77 := k77.gt g88
    refine Zx Xl J (Vz Vb J J J E.g3 ?_)
    intro wS11 hgS11 _ BS
    have C5 := E.g3
    replace E := E.s3 hgS11 BS
    have g := Zy g hgS11 (by omega)
    have h := h.keep hgS11 C5 rfl (by omega)
    have k60 := k60.keep hgS11 (by simp)
    have k77 := k77.keep hgS11 (by simp)
    refine Wh [(0, _, _), (3, _, _), (4, _, _), (5, _, _)] (Za J (Za J (Za J (Za J (Zj _))))) (Zb (kq (Ze (Zg (Yk Zc J J E.g3.row (Yt Zl J J J E.g4 ?_))))))
    intro wS12 hgS12 _ BS
    have C4 := E.g4
    replace E := E.s4 hgS12 BS
    have g := Zy g hgS12 (by omega)
    have h := h.keep hgS12 C4 rfl (by omega)
    have k60 := k60.keep hgS12 (by simp)
    have k77 := k77.keep hgS12 (by simp)
    refine Zb (kq (Zr (Xj J (Yy J Zc J (E.g4.row) (Yf)) ?_)))
    have e : stR F t (ckX F t) S = (dclT t [plainT (Zd t 0), ((ckT F (Zd t 1)).ex (localS F (Zd t 0) S)).1] (declN (failU (Ub (ofF (Zd t 0)).1 ((ckT F (Zd t 1)).ex (localS F (Zd t 0) S)).1.ty) (Zd t 1).pos 7 ((ckT F (Zd t 1)).ex (localS F (Zd t 0) S)).2)), declS t.text (ofF (Zd t 0)).1 t.pos (failU (Ub (ofF (Zd t 0)).1 ((ckT F (Zd t 1)).ex (localS F (Zd t 0) S)).1.ty) (Zd t 1).pos 7 ((ckT F (Zd t 1)).ex (localS F (Zd t 0) S)).2)) := by
     unfold stR; rw [Yeg h1, Yeg h2, Yeg h3, Yeg h4, Yfg h5]
     show varR F t (ckX F t) S = _
     unfold varR; rw [Uo (show 1 < t.kids.length by omega), Yeg h6]; rfl
    rw [e]; exact ⟨Xz (t := dclT t [_, _] _) rfl (Uk (ks := [_, _]) ⟨l79, Ug E.g0⟩ E.g0.row (Uh (k77.kdN q77) (Wp (k60.kdN q60))) (Nat.le_refl _)), h, g⟩
   have hr : Ub (ofF (Zd t 0)).1 ((ckT F (Zd t 1)).ex (localS F (Zd t 0) S)).1.ty = true := by simpa using h7
   have eT : ((ckT F (Zd t 1)).ex (localS F (Zd t 0) S)).2 = failU (Ub (ofF (Zd t 0)).1 ((ckT F (Zd t 1)).ex (localS F (Zd t 0) S)).1.ty) (Zd t 1).pos 7 ((ckT F (Zd t 1)).ex (localS F (Zd t 0) S)).2 := by rw [hr]; rfl
   rw [eT] at h
   refine Yc (kq (Ze (?_)))
   skip
   refine Wr [3, 0, 3, 0, 1, 0, 1, 3, 2] [true, true, true, true, true, false, true, true, true] [0, 1, 3, 7, 15, 0, 63, 127, 255] mix (by kernel_rfl) ?_
   have g := gtd g
   replace E := E.dr
   have h := h.grow (G.drew _)
   have hk0 := hk0.grow (G.drew _)
   have k60 := k60.grow (G.drew _)
   have EC := E
   refine Zx Zi J (Yg Zh J (E.g4.at_ J) (?_))
   obtain ⟨hpe, p_75, c_75, hcell, hkid⟩ := Xs hk0 (i := 0) (by omega)
   refine Ve Zf J J (by omega) hpe (Yk Zc J J hcell (Ya J (Zo Jz Yo (aqc J aq0) J) (Xna (Zd t 0) [b3, b4, b5, b6, b7] hkid (by omega) (E.ltm (by simp [selB])) g.size) ?_))
   rintro v77 w77 ⟨⟨p77, c77, rfl, q77, k77⟩, g77⟩
   refine ⟨fun _ => g77, ?_⟩
   have g := gtg g g77
   replace E := E.grow g77
   have h := h.grow (g77)
   have k60 := k60.grow (g77)
   refine Vua J (Xd Zc (Zk J) J (fun _ => EC.g0.row)) (Yb _ J Zf Zm (pqc J (pqc J pq0)) J J ?_)
   intro b79 w79 N79
   have l79 := Xm N79 g.size
   have k60 := k60.new N79
   have k77 := k77.new N79
   have g := gtg g N79.g
   have h := h.grow (N79.g)
   replace E := E.new N79
   refine Zx Zi J (Vz Xb J J J E.g3 ?_)
   intro wS13 hgS13 _ BS
   have C5 := E.g3
   replace E := E.s3 hgS13 BS
   have g := Zy g hgS13 (by omega)
   have h := h.keep hgS13 C5 rfl (by omega)
   have k60 := k60.keep hgS13 (by simp)
   have k77 := k77.keep hgS13 (by simp)
   refine Zb (kq (Ze (Zg (Zx Uj J (Vz Vb J J J E.g3 ?_)))))
   intro wS14 hgS14 _ BS
   have C5 := E.g3
   replace E := E.s3 hgS14 BS
   have g := Zy g hgS14 (by omega)
   have h := h.keep hgS14 C5 rfl (by omega)
   have k60 := k60.keep hgS14 (by simp)
   have k77 := k77.keep hgS14 (by simp)
   refine Zb (kq (Ze (Zg (Zt J (Zx Ym J (Yg Yr J (E.g5.at_ J) (Yk Zs J J E.g2.row (Zx Yw J (Yg Zu J (E.g5.at_ J) (Ya J (Zo Ql Yo (aqc J (aqc J (aqc J (aqc J aq0)))) J) (Wga t.text (ofF (Zd t 0)).1 t.pos h (by first | exact hbv | exact hbl) (by omega)) ?_))))))))))
   rintro v88 w88 ⟨rfl, h, g88⟩
   refine ⟨nw1, ?_⟩
   have g := g.trans g88
   replace E := E.gt g88 rfl
   have k60 := k60.gt g88
   have k77 := k77.gt g88
   refine Zx Xl J (Vz Vb J J J E.g3 ?_)
   intro wS15 hgS15 _ BS
   have C5 := E.g3
   replace E := E.s3 hgS15 BS
   have g := Zy g hgS15 (by omega)
   have h := h.keep hgS15 C5 rfl (by omega)
   have k60 := k60.keep hgS15 (by simp)
   have k77 := k77.keep hgS15 (by simp)
   refine Zb (kq (Ze (Zg (Yk Zc J J E.g3.row (Yt Zl J J J E.g4 ?_)))))
   intro wS16 hgS16 _ BS
   have C4 := E.g4
   replace E := E.s4 hgS16 BS
   have g := Zy g hgS16 (by omega)
   have h := h.keep hgS16 C4 rfl (by omega)
   have k60 := k60.keep hgS16 (by simp)
   have k77 := k77.keep hgS16 (by simp)
   refine Zb (kq (Zr (Xj J (Yy J Zc J (E.g4.row) (Yf)) ?_)))
   have e : stR F t (ckX F t) S = (dclT t [plainT (Zd t 0), ((ckT F (Zd t 1)).ex (localS F (Zd t 0) S)).1] (declN (failU (Ub (ofF (Zd t 0)).1 ((ckT F (Zd t 1)).ex (localS F (Zd t 0) S)).1.ty) (Zd t 1).pos 7 ((ckT F (Zd t 1)).ex (localS F (Zd t 0) S)).2)), declS t.text (ofF (Zd t 0)).1 t.pos (failU (Ub (ofF (Zd t 0)).1 ((ckT F (Zd t 1)).ex (localS F (Zd t 0) S)).1.ty) (Zd t 1).pos 7 ((ckT F (Zd t 1)).ex (localS F (Zd t 0) S)).2)) := by
    unfold stR; rw [Yeg h1, Yeg h2, Yeg h3, Yeg h4, Yfg h5]
    show varR F t (ckX F t) S = _
    unfold varR; rw [Uo (show 1 < t.kids.length by omega), Yeg h6]; rfl
   rw [e]; exact ⟨Xz (t := dclT t [_, _] _) rfl (Uk (ks := [_, _]) ⟨l79, Ug E.g0⟩ E.g0.row (Uh (k77.kdN q77) (Wp (k60.kdN q60))) (Nat.le_refl _)), h, g⟩
  replace h6 : (Zd t 1).kind = 9 := by simpa using h6
  refine Yc (kq (Ze (?_)))
  skip
  refine Wr [3, 0, 3, 0, 1, 0, 1, 3, 2] [true, true, true, true, true, false, true, true, true] [0, 1, 3, 7, 15, 0, 63, 127, 255] mix (by kernel_rfl) ?_
  have g := gtd g
  replace E := E.dr
  have h := h.grow (G.drew _)
  have hk0 := hk0.grow (G.drew _)
  have EC := E
  refine Zx Zi J (Yg Zh J (E.g4.at_ J) (?_))
  obtain ⟨hpe, p_75, c_75, hcell, hkid⟩ := Xs hk0 (i := 0) (by omega)
  refine Ve Zf J J (by omega) hpe (Yk Zc J J hcell (Ya J (Zo Jz Yo (aqc J aq0) J) (Xna (Zd t 0) [b3, b4, b5, b6, b7] hkid (by omega) (E.ltm (by simp [selB])) g.size) ?_))
  rintro v77 w77 ⟨⟨p77, c77, rfl, q77, k77⟩, g77⟩
  refine ⟨fun _ => g77, ?_⟩
  have g := gtg g g77
  replace E := E.grow g77
  have h := h.grow (g77)
  refine Vua J (Xd Zc (Zk J) J (fun _ => EC.g0.row)) (Yb _ J Zf Zm (pqc J (pqc J pq0)) J J ?_)
  intro b79 w79 N79
  have l79 := Xm N79 g.size
  have k77 := k77.new N79
  have g := gtg g N79.g
  have h := h.grow (N79.g)
  replace E := E.new N79
  refine Zx Zi J (Vz Xb J J J E.g3 ?_)
  intro wS17 hgS17 _ BS
  have C5 := E.g3
  replace E := E.s3 hgS17 BS
  have g := Zy g hgS17 (by omega)
  have h := h.keep hgS17 C5 rfl (by omega)
  have k77 := k77.keep hgS17 (by simp)
  refine Zb (kq (Ze (Zg (Zx Uj J (Vz Vb J J J E.g3 ?_)))))
  intro wS18 hgS18 _ BS
  have C5 := E.g3
  replace E := E.s3 hgS18 BS
  have g := Zy g hgS18 (by omega)
  have h := h.keep hgS18 C5 rfl (by omega)
  have k77 := k77.keep hgS18 (by simp)
  refine Zb (kq (Ze (Zg (Zt J (Zx Ym J (Yg Yr J (E.g5.at_ J) (Yk Zs J J E.g2.row (Zx Yw J (Yg Zu J (E.g5.at_ J) (Ya J (Zo Ql Yo (aqc J (aqc J (aqc J (aqc J aq0)))) J) (Wga t.text (ofF (Zd t 0)).1 t.pos h (by first | exact hbv | exact hbl) (by omega)) ?_))))))))))
  rintro v88 w88 ⟨rfl, h, g88⟩
  refine ⟨nw1, ?_⟩
  have g := g.trans g88
  replace E := E.gt g88 rfl
  have k77 := k77.gt g88
  refine Zx Xl J (Vz Vb J J J E.g3 ?_)
  intro wS19 hgS19 _ BS
  have C5 := E.g3
  replace E := E.s3 hgS19 BS
  have g := Zy g hgS19 (by omega)
  have h := h.keep hgS19 C5 rfl (by omega)
  have k77 := k77.keep hgS19 (by simp)
  refine Zb (kq (Ze (Zg (Yk Zc J J E.g3.row (Yt Zl J J J E.g4 ?_)))))
  intro wS20 hgS20 _ BS
  have C4 := E.g4
  replace E := E.s4 hgS20 BS
  have g := Zy g hgS20 (by omega)
  have h := h.keep hgS20 C4 rfl (by omega)
  have k77 := k77.keep hgS20 (by simp)
  refine Zb (kq (Zr (Xj J (Yy J Zc J (E.g4.row) (Yf)) ?_)))
  have e : stR F t (ckX F t) S = (dclT t [plainT (Zd t 0), clnT (Zd t 1)] (declN (localS F (Zd t 0) S)), declS t.text (ofF (Zd t 0)).1 t.pos (localS F (Zd t 0) S)) := by
   unfold stR; rw [Yeg h1, Yeg h2, Yeg h3, Yeg h4, Yfg h5]
   show varR F t (ckX F t) S = _
   unfold varR; rw [Yfg h6]; rfl
  rw [e]; exact ⟨Xz (t := dclT t [_, clnT (Zd t 1)] _) rfl (Uk (ks := [_, clnT (Zd t 1)]) ⟨l79, Ug E.g0⟩ E.g0.row (Uh (k77.kdN q77) (Wp (Yka _ _))) (Nat.le_refl _)), h, g⟩
 replace h5 : t.kind ≠ 6 := of_decide_eq_false h5
 refine Ze (Zg (Xt J J (Zp J (Zb (kq (Yv J (fun h8 => ?_) (fun h8 => ?_)))))))
 ·replace h8 : t.kind = 11 := of_decide_eq_true h8
  obtain ⟨_, hl, he0⟩ := sh11 h8 hx
  have hc1 := cn1 hl
  have Q0 := K 0 (by omega)
  have hbd := (((Uba F (Zd t 0)).ex S).failu (Qr ((ckT F (Zd t 0)).ex S).1.ty) (Zd t 0).pos 7).bd _ hb
  refine Ze (Zg (Zt J (Zx Zi J (Yg Zh J (E.g2.at_ J) (?_)))))
  obtain ⟨hpe, p_96, c_96, hcell, hkid⟩ := Xs hk0 (i := 0) (by omega)
  refine Ve Zf J J (by omega) hpe (Yk Zc J J hcell (Ya J (Zo Wn Yo (aqc J (aqc J aq0)) J) (CkC.to (Q0.ex he0) [b3, b4, b5] h hkid hb (by omega) (E.ltm (by simp [selB])) g.size) ?_))
  rintro v98 w98 ⟨⟨p98, c98, rfl, q98, k98⟩, h, g98⟩
  refine ⟨nw1, ?_⟩
  have g := g.trans g98
  replace E := E.gt g98 rfl
  have hk0 := hk0.gt g98 (fun k h => h)
  refine Yh J Zm J ?_
  intro b8 w8 N8
  have l8 := Xm N8 g.size
  have k98 := k98.new N8
  have g := gtg g N8.g
  have h := h.grow (N8.g)
  have hk0 := hk0.grow (N8.g)
  replace E := E.new N8
  refine Yt Zl J J J E.g0 ?_
  intro wS21 hgS21 _ BS
  have C8 := E.g0
  replace E := E.s0 hgS21 BS
  have g := Zy g hgS21 (by omega)
  have h := h.keep hgS21 C8 rfl (by omega)
  have hk0 := hk0.keep hgS21 (fun k hk _ e => by injection e with e; omega)
  have k98 := k98.keep hgS21 (by simp)
  refine Zb (kq (Ze (Ze (Zg (Zx Xa J (Yk Zs J J (E.g0.row.part 5 2) (Xk J (Zo Xha Yo (aqc J aq0) J) (Uoa _ _) (fun w101 g101 => ?_))))))))
  have g := gtg g g101
  replace E := E.grow g101
  have h := h.grow (g101)
  have hk0 := hk0.grow (g101)
  have k98 := k98.grow (g101)
  refine Wia J (Zb (kq (Yv J (fun h9 => ?_) (fun h9 => ?_))))
  ·have hr : Qr ((ckT F (Zd t 0)).ex S).1.ty = false := by simpa using h9
   refine Zg (Zt J (Zx Zi J (Yg Zh J (E.g3.at_ J) (?_))))
   obtain ⟨hpe, p_106, c_106, hcell, hkid⟩ := Xs hk0 (i := 0) (by omega)
   refine Ve Zf J J (by omega) hpe (Zx Yw J (Yg Zu J (hcell.one (i := 3) J) (Ya J (Zo Yz Yo (aqc J (aqc J (aqc J aq0))) J) (Vj (Zd t 0).pos 7 h) ?_)))
   rintro v109 w109 ⟨rfl, h, g109⟩
   refine ⟨nw1, ?_⟩
   have g := g.trans g109
   replace E := E.gt g109 rfl
   have k98 := k98.gt g109
   have eT : failS (Zd t 0).pos 7 ((ckT F (Zd t 0)).ex S).2 = (failU (Qr ((ckT F (Zd t 0)).ex S).1.ty) (Zd t 0).pos 7 ((ckT F (Zd t 0)).ex S).2) := by rw [hr]; rfl
   rw [eT] at h
   refine Zb (kq (Ze (Zg (Yk Zc J J E.g0.row (Yb _ J Zf Zm (pqc J pq0) J J ?_)))))
   intro b111 w111 N111
   have l111 := Xm N111 g.size
   have k98 := k98.new N111
   have g := gtg g N111.g
   have h := h.grow (N111.g)
   replace E := E.new N111
   refine Zx Zi J (Vz Xb J J J E.g2 ?_)
   intro wS22 hgS22 _ BS
   have C5 := E.g2
   replace E := E.s2 hgS22 BS
   have g := Zy g hgS22 (by omega)
   have h := h.keep hgS22 C5 rfl (by omega)
   have k98 := k98.keep hgS22 (by simp)
   refine Zb (kq (Ze (Zg (Zx Uj J (Vz Vb J J J E.g2 ?_)))))
   intro wS23 hgS23 _ BS
   have C5 := E.g2
   replace E := E.s2 hgS23 BS
   have g := Zy g hgS23 (by omega)
   have h := h.keep hgS23 C5 rfl (by omega)
   have k98 := k98.keep hgS23 (by simp)
   refine Zb (kq (Ze (Zg (Zt J (Zx Ym J (Yg Yr J (E.g4.at_ J) (Zx Xa J (Yk Zs J J (E.g1.row.part 5 2) (Zx Yw J (Yg Zu J (E.g4.at_ J) (Ya J (Zo Ql Yo (aqc J (aqc J (aqc J (aqc J aq0)))) J) (Wga t.text ((ckT F (Zd t 0)).ex S).1.ty t.pos h hbd (by omega)) ?_)))))))))))
   rintro v121 w121 ⟨rfl, h, g121⟩
   refine ⟨nw1, ?_⟩
   have g := g.trans g121
   replace E := E.gt g121 rfl
   have k98 := k98.gt g121
   refine Zx Xl J (Vz Vb J J J E.g2 ?_)
   intro wS24 hgS24 _ BS
   have C5 := E.g2
   replace E := E.s2 hgS24 BS
   have g := Zy g hgS24 (by omega)
   have h := h.keep hgS24 C5 rfl (by omega)
   have k98 := k98.keep hgS24 (by simp)
   refine Zb (kq (Ze (Zg (Yk Zc J J E.g2.row (Yt Zl J J J E.g3 ?_)))))
   intro wS25 hgS25 _ BS
   have C4 := E.g3
   replace E := E.s3 hgS25 BS
   have g := Zy g hgS25 (by omega)
   have h := h.keep hgS25 C4 rfl (by omega)
   have k98 := k98.keep hgS25 (by simp)
   refine Zb (kq (Zr (Xj J (Yy J Zc J (E.g3.row) (Yf)) ?_)))
   have e : stR F t (ckX F t) S = (dclT t [((ckT F (Zd t 0)).ex S).1] (declN (failU (Qr ((ckT F (Zd t 0)).ex S).1.ty) (Zd t 0).pos 7 ((ckT F (Zd t 0)).ex S).2)), declS t.text ((ckT F (Zd t 0)).ex S).1.ty t.pos (failU (Qr ((ckT F (Zd t 0)).ex S).1.ty) (Zd t 0).pos 7 ((ckT F (Zd t 0)).ex S).2)) := by
    unfold stR; rw [Yeg h1, Yeg h2, Yeg h3, Yeg h4, Yeg h5, Yfg h8]
    show defR t (ckX F t) S = _
    unfold defR; rw [Uo (show 0 < t.kids.length by omega)]
   rw [e]; exact ⟨Xz (t := dclT t [_] _) rfl (Uk (ks := [_]) ⟨l111, Ug E.g0⟩ E.g0.row (Wp (k98.kdN q98)) (Nat.le_refl _)), h, g⟩
  have hr : Qr ((ckT F (Zd t 0)).ex S).1.ty = true := by simpa using h9
  have eT : ((ckT F (Zd t 0)).ex S).2 = (failU (Qr ((ckT F (Zd t 0)).ex S).1.ty) (Zd t 0).pos 7 ((ckT F (Zd t 0)).ex S).2) := by rw [hr]; rfl
  rw [eT] at h
  refine Yc (kq (Ze (Zg (Yk Zc J J E.g0.row (Yb _ J Zf Zm (pqc J pq0) J J ?_)))))
  intro b111 w111 N111
  have l111 := Xm N111 g.size
  have k98 := k98.new N111
  have g := gtg g N111.g
  have h := h.grow (N111.g)
  replace E := E.new N111
  refine Zx Zi J (Vz Xb J J J E.g2 ?_)
  intro wS26 hgS26 _ BS
  have C5 := E.g2
  replace E := E.s2 hgS26 BS
  have g := Zy g hgS26 (by omega)
  have h := h.keep hgS26 C5 rfl (by omega)
  have k98 := k98.keep hgS26 (by simp)
  refine Zb (kq (Ze (Zg (Zx Uj J (Vz Vb J J J E.g2 ?_)))))
  intro wS27 hgS27 _ BS
  have C5 := E.g2
  replace E := E.s2 hgS27 BS
  have g := Zy g hgS27 (by omega)
  have h := h.keep hgS27 C5 rfl (by omega)
  have k98 := k98.keep hgS27 (by simp)
  refine Zb (kq (Ze (Zg (Zt J (Zx Ym J (Yg Yr J (E.g4.at_ J) (Zx Xa J (Yk Zs J J (E.g1.row.part 5 2) (Zx Yw J (Yg Zu J (E.g4.at_ J) (Ya J (Zo Ql Yo (aqc J (aqc J (aqc J (aqc J aq0)))) J) (Wga t.text ((ckT F (Zd t 0)).ex S).1.ty t.pos h hbd (by omega)) ?_)))))))))))
  rintro v121 w121 ⟨rfl, h, g121⟩
  refine ⟨nw1, ?_⟩
  have g := g.trans g121
  replace E := E.gt g121 rfl
  have k98 := k98.gt g121
  refine Zx Xl J (Vz Vb J J J E.g2 ?_)
  intro wS28 hgS28 _ BS
  have C5 := E.g2
  replace E := E.s2 hgS28 BS
  have g := Zy g hgS28 (by omega)
  have h := h.keep hgS28 C5 rfl (by omega)
  have k98 := k98.keep hgS28 (by simp)
  refine Zb (kq (Ze (Zg (Yk Zc J J E.g2.row (Yt Zl J J J E.g3 ?_)))))
  intro wS29 hgS29 _ BS
  have C4 := E.g3
  replace E := E.s3 hgS29 BS
  have g := Zy g hgS29 (by omega)
  have h := h.keep hgS29 C4 rfl (by omega)
  have k98 := k98.keep hgS29 (by simp)
  refine Zb (kq (Zr (Xj J (Yy J Zc J (E.g3.row) (Yf)) ?_)))
  have e : stR F t (ckX F t) S = (dclT t [((ckT F (Zd t 0)).ex S).1] (declN (failU (Qr ((ckT F (Zd t 0)).ex S).1.ty) (Zd t 0).pos 7 ((ckT F (Zd t 0)).ex S).2)), declS t.text ((ckT F (Zd t 0)).ex S).1.ty t.pos (failU (Qr ((ckT F (Zd t 0)).ex S).1.ty) (Zd t 0).pos 7 ((ckT F (Zd t 0)).ex S).2)) := by
   unfold stR; rw [Yeg h1, Yeg h2, Yeg h3, Yeg h4, Yeg h5, Yfg h8]
   show defR t (ckX F t) S = _
   unfold defR; rw [Uo (show 0 < t.kids.length by omega)]
  rw [e]; exact ⟨Xz (t := dclT t [_] _) rfl (Uk (ks := [_]) ⟨l111, Ug E.g0⟩ E.g0.row (Wp (k98.kdN q98)) (Nat.le_refl _)), h, g⟩
 replace h8 : t.kind ≠ 11 := of_decide_eq_false h8
 refine Ze (Zg (Xt J J (Zp J (Zb (kq (Yv J (fun h10 => ?_) (fun h10 => ?_)))))))
 ·replace h10 : t.kind = 19 := of_decide_eq_true h10
  obtain ⟨hl, h0, hb1⟩ := sh19 h10 hx
  have hc2 := cn2 hl
  have Q1 := K 1 (by omega)
  have hDp : pb p < n0 := Uja hk0 (show 0 < t.kids.length by omega)
  have C0 : CkC F Zua (Zd t 0) (condR (Zd t 0) (ckT F (Zd t 0))) := Utd (F := F) (t := Zd t 0) (fun h9 => (K 0 (by omega)).ex (h0.resolve_left fun h => h9 (Uia h).1))
  have hbd1 := (Zud F (Zd t 0) S).bd _ hb
  refine Ze (Zg (Zt J (Zx Zi J (Yg Zh J (E.g2.at_ J) (?_)))))
  obtain ⟨hpe, p_129, c_129, hcell, hkid⟩ := Xs hk0 (i := 0) (by omega)
  refine Ve Zf J J (by omega) hpe (Yk Zc J J hcell (Ya J (Zo Xua Yo (aqc J (aqc J aq0)) J) (CkC.to (C0) [b3, b4, b5] h hkid hb (by omega) (E.ltm (by simp [selB])) g.size) ?_))
  rintro v131 w131 ⟨⟨p131, c131, rfl, q131, k131⟩, h, g131⟩
  refine ⟨nw1, ?_⟩
  have g := g.trans g131
  replace E := E.gt g131 rfl
  have hk0 := hk0.gt g131 (fun k h => h)
  refine Yb _ J Zf Zm (pqc J pq0) J J ?_
  intro b132 w132 N132
  have l132 := Xm N132 g.size
  have k131 := k131.new N132
  have g := gtg g N132.g
  have h := h.grow (N132.g)
  have hk0 := hk0.grow (N132.g)
  replace E := E.new N132
  have x132_5 := E.ne 0 1 rfl rfl rfl
  have x132_4 := E.ne 0 2 rfl rfl rfl
  have x132_3 := E.ne 0 3 rfl rfl rfl
  have hO132 : OwnN [b3, b4, b5] w.heap.size _ [(condR (Zd t 0) (ckT F (Zd t 0)) S).1] (.slice (some ⟨b132, 0, none⟩) 1 1) := Vqa E.g0 l132 (k131.mono fun k hk _ => ⟨⟨⟨by have := hk.1.1; omega, by have := hk.1.2; simp at this ⊢; omega⟩, hk.2⟩, by have := hk.1.2; simp at this; omega⟩) ⟨⟨l132, by simp; omega⟩, Ug E.g0⟩
  refine Zx Zi J (Vz Xb J J J E.g1 ?_)
  intro wS30 hgS30 _ BS
  have C5 := E.g1
  replace E := E.s1 hgS30 BS
  have g := Zy g hgS30 (by omega)
  have h := h.keep hgS30 C5 rfl (by omega)
  have hk0 := hk0.keep hgS30 (fun k hk _ e => by injection e with e; omega)
  first | have hO132 := hO132.keept hgS30 C5 rfl | have hO132 := hO132.keep hgS30 (by simp)
  refine Zb (kq (Ze (Ud (gtR n0) [3, 0, 3, 3, 0, 3, 0, 1, 1, 2, 3, 2] [0, 1, 0, 0, 8, 24, 56, 124, 252, 511, 1023, 2047] mix (by kernel_rfl) [0, 1, 2, 3, 4, 5, 6, 7, 8, 9, 10, 11] J ?_)))
  have g := gtd g
  replace E := E.dr
  have h := h.grow (G.drew _)
  have hk0 := hk0.grow (G.drew _)
  have hO132 := hO132.grow (G.drew _)
  refine Xc 0 J J (fun _ => Zv Zi (Zk J)) (Vk 1 J J (fun w1 hx => Ye Zh (Zk J) (fun _ => (E.g1.gt hx J).at_ J)) (Xc 2 J J (fun _ => Yl (Zk J)) (Xc 3 J J (fun _ => Zv Zi (Zk J)) (Vk 4 J J (fun w1 hx => Ye Zh (Zk J) (fun _ => (E.g3.gt hx J).at_ J)) (?_)))))
  obtain ⟨hpe, p_139, c_139, hcell, hkid⟩ := Xs hk0 (i := 1) (by omega)
  refine Xc 5 J J (fun _ => Wj Zf (Zk J) Xy (fun _ => by omega) (fun _ => hpe)) (Vk 6 J J (fun w1 hx => Xd Zc (Zk J) J (fun _ => hcell.gt hx hDp)) (Xo 7 J J ?_))
  refine Xg (L' := [8, 9, 10, 11]) [3, 0, 3, 3, 0, 3, 0, 2, 1, 2, 3, 2] J J J ?_
  refine Ya J (Zo Ju Yo (aqc J (aqc J aq0)) J) (CkC.to (Q1.blk hb1) [b3, b4, b5, b132] h hkid hbd1 (by omega) (E.ltm (by simp [selB])) g.size) ?_
  rintro v141 w141 ⟨⟨p141, c141, rfl, q141, k141⟩, h, g141⟩
  refine ⟨nw1, ?_⟩
  have g := g.trans g141
  replace E := E.gt g141 rfl
  have hO132 := hO132.gt g141 rfl
  refine Wa (g141) ?_
  refine Xo 8 J J ?_
  refine Xg (L' := [9, 10, 11]) [3, 0, 3, 3, 0, 3, 0, 2, 1, 2, 3, 2] J J J ?_
  refine Yb _ J Zf Zm (pqc J pq0) J J ?_
  intro b142 w142 N142
  have l142 := Xm N142 g.size
  have k141 := k141.new N142
  have g := gtg g N142.g
  have h := h.grow (N142.g)
  have hO132 := hO132.grow (N142.g)
  replace E := E.new N142
  have x142_132 := E.ne 0 1 rfl rfl rfl
  refine Wa (GT.of_g (N142.g)) ?_
  refine Xo 9 J J ?_
  refine Wt (L' := [10, 11]) [3, 0, 3, 3, 0, 3, 0, 2, 1, 2, 3, 2] J J J J ?_
  have hOo := hO132
  refine Ur J Zf Zm J (Zk J) hO132 (Zk J) J E.g0.row (Zra k141 q141 (by intro j hj; simp at hj ⊢; omega) (fun j hj => by obtain rfl : b132 = j := (by injection hj); simp)) (by simp) (by have := g.size; omega) ⟨by have := g.size; omega, by have q3 := E.g4.lt; have q4 := E.g3.lt; have q5 := E.g2.lt; simp; omega⟩ ?_
  intro a143 c143 w143 hO132 hg143
  replace E := E.sel [false, false, true, true, true]
  replace E := E.keepX hg143 hOo.ne (by simp [selB])
  have g := Qj g hg143 (fun k hk => hOo.ge k hk)
  have h := h.keepO hg143 hOo (by omega)
  refine Vm ?_
  refine Xc 10 J J (fun _ => Zv Zi (Zk J)) (Xo 11 J J ?_)
  refine Wt (L' := []) [3, 0, 3, 3, 0, 3, 0, 2, 1, 2, 3, 2] J J J J ?_
  refine Vz Xb J J J E.g0 ?_
  intro wS31 hgS31 _ BS
  have C5 := E.g0
  replace E := E.s0 hgS31 BS
  have g := Zy g hgS31 (by omega)
  have h := h.keep hgS31 C5 rfl (by omega)
  first | have hO132 := hO132.keept hgS31 C5 rfl | have hO132 := hO132.keep hgS31 (by simp)
  refine Vm ?_
  refine Uq [(0, _, _), (3, _, _), (4, _, _), (5, _, _)] (Za J (Za J (Za J (Za J (Zj _))))) (Up (kq (Ze (Zg (Yk Zc J J E.g0.row (Yt Zl J J J E.g1 ?_))))))
  intro wS32 hgS32 _ BS
  have C4 := E.g1
  replace E := E.s1 hgS32 BS
  have g := Zy g hgS32 (by omega)
  have h := h.keep hgS32 C4 rfl (by omega)
  first | have hO132 := hO132.keept hgS32 C4 rfl | have hO132 := hO132.keep hgS32 (by simp)
  refine Zb (kq (Zr (Xj J (Yy J Zc J (E.g1.row) (Yf)) ?_)))
  have e : stR F t (ckX F t) S = (annT t [(condR (Zd t 0) (ckT F (Zd t 0)) S).1, ((ckT F (Zd t 1)).blk (condR (Zd t 0) (ckT F (Zd t 0)) S).2).1] ty0, ((ckT F (Zd t 1)).blk (condR (Zd t 0) (ckT F (Zd t 0)) S).2).2) := by
   unfold stR; rw [Yeg h1, Yeg h2, Yeg h3, Yeg h4, Yeg h5, Yeg h8, Yfg h10]
   show forR t (ckX F t) S = _
   unfold forR; rw [Uo (show 0 < t.kids.length by omega), Uo (show 1 < t.kids.length by omega)]
  rw [e]; exact ⟨Xz (t := annT t [_, _] ty0) rfl hO132.kd, h, g⟩
 replace h10 : t.kind ≠ 19 := of_decide_eq_false h10
 refine Ze (Zg (Xt J J (Zp J (Zb (kq (Yv J (fun h11 => ?_) (fun h11 => ?_)))))))
 ·replace h11 : t.kind = 20 := of_decide_eq_true h11
  obtain ⟨hl20, he20⟩ := sh20 h11 hx
  have hbs := (Vlb (!Bool.xor (decide ((t.kids.length : Int) = 1)) (!tyEqB S.result ty0)) t.pos 7 S).bd _ hb
  refine Ze (Ze (Wr [3, 0, 3, 3, 3, 3, 3, 0, 3, 3, 3] [true, true, true, true, true, true, true, true, true, true, true] [0, 1, 3, 7, 0, 16, 48, 112, 0, 496, 1023] mix (by kernel_rfl) ?_))
  have g := gtd g
  replace E := E.dr
  have h := h.grow (G.drew _)
  have hk0 := hk0.grow (G.drew _)
  obtain ⟨fv, sv, sn, h⟩ := h
  refine Zx Zi J (Yg Zh J (E.g2.at_ J) (Qu Zf J (Xt J J (Zt J (Ui J (Zx Vi J (Yk Zs J J (h.B.row.part 13 2) (Uc Yq Xv pq0 J J (Yi J (fun _ => Wac Uz (Zk J) (Zk J) J) (Yi J (fun _ => Qwf Vud (Zk J) (Zk J)) (Zb (kq (Yv J (fun h12 => ?_) (fun h12 => ?_))))))))))))))
  ·have hr : Bool.xor (decide ((t.kids.length : Int) = 1)) (!tyEqB S.result ty0) = true := h12
   refine Zg (Zt J (Zx Yw J (Yg Zu J (E.g2.at_ J) (Ya J (Zo Yz Yo (aqc J (aqc J (aqc J aq0))) J) (Vj t.pos 7 h.chk) ?_))))
   rintro v162 w162 ⟨rfl, h, g162⟩
   refine ⟨nw1, ?_⟩
   have g := g.trans g162
   replace E := E.gt g162 rfl
   have hk0 := hk0.gt g162 (fun k h => h)
   have eS : failS t.pos 7 S = (failU (!Bool.xor (decide ((t.kids.length : Int) = 1)) (!tyEqB S.result ty0)) t.pos 7 S) := by rw [hr]; rfl
   rw [eS] at h
   refine Zb (kq (Ze (Ze (Zg (Zx Zi J (Yg Zh J (E.g2.at_ J) (Qu Zf J (Xt J J (Zb (kq (Yv J (fun h13 => ?_) (fun h13 => ?_))))))))))))
   ·have hl1 : t.kids.length = 1 := by have := of_decide_eq_true h13; omega
    have he0 : exprB (Zd t 0) = true := Qh he20 (by omega)
    have hc1 := cn1 hl1
    have Q0 := K 0 (by omega)
    have hd1 : decide ((t.kids.length : Int) = 1) = true := h13
    refine Ze (Zg (Zt J (Zx Zi J (Yg Zh J (E.g2.at_ J) (?_)))))
    obtain ⟨hpe, p_170, c_170, hcell, hkid⟩ := Xs hk0 (i := 0) (by omega)
    refine Ve Zf J J (by omega) hpe (Yk Zc J J hcell (Ya J (Zo Wn Yo (aqc J (aqc J aq0)) J) (CkC.to (Q0.ex he0) [b3, b4, b5] h hkid hbs (by omega) (E.ltm (by simp [selB])) g.size) ?_))
    rintro v172 w172 ⟨⟨p172, c172, rfl, q172, k172⟩, h, g172⟩
    refine ⟨nw1, ?_⟩
    have g := g.trans g172
    replace E := E.gt g172 rfl
    have hk0 := hk0.gt g172 (fun k h => h)
    refine Yh J Zm J ?_
    intro b9 w9 N9
    have l9 := Xm N9 g.size
    have k172 := k172.new N9
    have g := gtg g N9.g
    have h := h.grow (N9.g)
    have hk0 := hk0.grow (N9.g)
    replace E := E.new N9
    refine Yt Zl J J J E.g0 ?_
    intro wS33 hgS33 _ BS
    have C9 := E.g0
    replace E := E.s0 hgS33 BS
    have g := Zy g hgS33 (by omega)
    have h := h.keep hgS33 C9 rfl (by omega)
    have hk0 := hk0.keep hgS33 (fun k hk _ e => by injection e with e; omega)
    have k172 := k172.keep hgS33 (by simp)
    refine Zb (kq (Ze (Ze (Wr [3, 3, 3, 0, 3, 0, 1, 3] [true, true, true, true, true, true, true, true] [0, 1, 3, 7, 0, 16, 63, 127] mix (by kernel_rfl) ?_))))
    have g := gtd g
    replace E := E.dr
    have h := h.grow (G.drew _)
    have hk0 := hk0.grow (G.drew _)
    have k172 := k172.grow (G.drew _)
    obtain ⟨fv, sv, sn, h⟩ := h
    refine Zt J (Ui J (Zx Vi J (Yk Zs J J (h.B.row.part 13 2) (Zx Xa J (Yk Zs J J (E.g0.row.part 5 2) (Xk J (Zo Jf Yo (aqc J (aqc J aq0)) J) (Xya _ _ _) (fun w179 g179 => ?_)))))))
    have g := gtg g g179
    replace E := E.grow g179
    have h := h.grow (g179)
    have hk0 := hk0.grow (g179)
    have k172 := k172.grow (g179)
    refine Wia J (Zb (kq (Yv J (fun h14 => ?_) (fun h14 => ?_))))
    ·have ha1 : Ub ((ckT F (Zd t 0)).ex (failU (!Bool.xor (decide ((t.kids.length : Int) = 1)) (!tyEqB S.result ty0)) t.pos 7 S)).2.result ((ckT F (Zd t 0)).ex (failU (!Bool.xor (decide ((t.kids.length : Int) = 1)) (!tyEqB S.result ty0)) t.pos 7 S)).1.ty = false := by simpa using h14
     have h := h.chk
     refine Zg (Zt J (Zx Zi J (Yg Zh J (E.g3.at_ J) (?_))))
     obtain ⟨hpe, p_184, c_184, hcell, hkid⟩ := Xs hk0 (i := 0) (by omega)
     refine Ve Zf J J (by omega) hpe (Zx Yw J (Yg Zu J (hcell.one (i := 3) J) (Ya J (Zo Yz Yo (aqc J (aqc J (aqc J aq0))) J) (Vj (Zd t 0).pos 7 h) ?_)))
     rintro v187 w187 ⟨rfl, h, g187⟩
     refine ⟨nw1, ?_⟩
     have g := g.trans g187
     replace E := E.gt g187 rfl
     have k172 := k172.gt g187
     refine Zb (kq (Zg (Yk Zc J J E.g0.row (Yb _ J Zf Zm (pqc J pq0) J J ?_))))
     intro b189 w189 N189
     have l189 := Xm N189 g.size
     have k172 := k172.new N189
     have g := gtg g N189.g
     have h := h.grow (N189.g)
     replace E := E.new N189
     refine Zx Zi J (Vz Xb J J J E.g2 ?_)
     intro wS34 hgS34 _ BS
     have C5 := E.g2
     replace E := E.s2 hgS34 BS
     have g := Zy g hgS34 (by omega)
     have h := h.keep hgS34 C5 rfl (by omega)
     have k172 := k172.keep hgS34 (by simp)
     refine Zb (kq (Ze (Zg (Yk Zc J J E.g2.row (Yt Zl J J J E.g3 ?_)))))
     intro wS35 hgS35 _ BS
     have C4 := E.g3
     replace E := E.s3 hgS35 BS
     have g := Zy g hgS35 (by omega)
     have h := h.keep hgS35 C4 rfl (by omega)
     have k172 := k172.keep hgS35 (by simp)
     refine Zb (kq (Zr (Xj J (Yy J Zc J (E.g3.row) (Yf)) ?_)))
     have e : stR F t (ckX F t) S = (annT t [((ckT F (Zd t 0)).ex (failU (!Bool.xor (decide ((t.kids.length : Int) = 1)) (!tyEqB S.result ty0)) t.pos 7 S)).1] ty0, failU (Ub ((ckT F (Zd t 0)).ex (failU (!Bool.xor (decide ((t.kids.length : Int) = 1)) (!tyEqB S.result ty0)) t.pos 7 S)).2.result ((ckT F (Zd t 0)).ex (failU (!Bool.xor (decide ((t.kids.length : Int) = 1)) (!tyEqB S.result ty0)) t.pos 7 S)).1.ty) (Zd t 0).pos 7 ((ckT F (Zd t 0)).ex (failU (!Bool.xor (decide ((t.kids.length : Int) = 1)) (!tyEqB S.result ty0)) t.pos 7 S)).2) := by
      unfold stR; rw [Yeg h1, Yeg h2, Yeg h3, Yeg h4, Yeg h5, Yeg h8, Yeg h10, Yfg h11]
      show retR t (ckX F t) S = _
      unfold retR; rw [Uo (show 0 < t.kids.length by omega), hd1]; rfl
     rw [e, ha1]; exact ⟨Xz (t := annT t [_] ty0) rfl (Uk (ks := [_]) ⟨l189, Ug E.g0⟩ E.g0.row (Wp (k172.kdN q172)) (Nat.le_refl _)), h, g⟩
    have ha1 : Ub ((ckT F (Zd t 0)).ex (failU (!Bool.xor (decide ((t.kids.length : Int) = 1)) (!tyEqB S.result ty0)) t.pos 7 S)).2.result ((ckT F (Zd t 0)).ex (failU (!Bool.xor (decide ((t.kids.length : Int) = 1)) (!tyEqB S.result ty0)) t.pos 7 S)).1.ty = true := by simpa using h14
    have h := h.chk
    refine Yc (kq (Zg (Yk Zc J J E.g0.row (Yb _ J Zf Zm (pqc J pq0) J J ?_))))
    intro b189 w189 N189
    have l189 := Xm N189 g.size
    have k172 := k172.new N189
    have g := gtg g N189.g
    have h := h.grow (N189.g)
    replace E := E.new N189
    refine Zx Zi J (Vz Xb J J J E.g2 ?_)
    intro wS36 hgS36 _ BS
    have C5 := E.g2
    replace E := E.s2 hgS36 BS
    have g := Zy g hgS36 (by omega)
    have h := h.keep hgS36 C5 rfl (by omega)
    have k172 := k172.keep hgS36 (by simp)
    refine Zb (kq (Ze (Zg (Yk Zc J J E.g2.row (Yt Zl J J J E.g3 ?_)))))
    intro wS37 hgS37 _ BS
    have C4 := E.g3
    replace E := E.s3 hgS37 BS
    have g := Zy g hgS37 (by omega)
    have h := h.keep hgS37 C4 rfl (by omega)
    have k172 := k172.keep hgS37 (by simp)
    refine Zb (kq (Zr (Xj J (Yy J Zc J (E.g3.row) (Yf)) ?_)))
    have e : stR F t (ckX F t) S = (annT t [((ckT F (Zd t 0)).ex (failU (!Bool.xor (decide ((t.kids.length : Int) = 1)) (!tyEqB S.result ty0)) t.pos 7 S)).1] ty0, failU (Ub ((ckT F (Zd t 0)).ex (failU (!Bool.xor (decide ((t.kids.length : Int) = 1)) (!tyEqB S.result ty0)) t.pos 7 S)).2.result ((ckT F (Zd t 0)).ex (failU (!Bool.xor (decide ((t.kids.length : Int) = 1)) (!tyEqB S.result ty0)) t.pos 7 S)).1.ty) (Zd t 0).pos 7 ((ckT F (Zd t 0)).ex (failU (!Bool.xor (decide ((t.kids.length : Int) = 1)) (!tyEqB S.result ty0)) t.pos 7 S)).2) := by
     unfold stR; rw [Yeg h1, Yeg h2, Yeg h3, Yeg h4, Yeg h5, Yeg h8, Yeg h10, Yfg h11]
     show retR t (ckX F t) S = _
     unfold retR; rw [Uo (show 0 < t.kids.length by omega), hd1]; rfl
    rw [e, ha1]; exact ⟨Xz (t := annT t [_] ty0) rfl (Uk (ks := [_]) ⟨l189, Ug E.g0⟩ E.g0.row (Wp (k172.kdN q172)) (Nat.le_refl _)), h, g⟩
   have hd1 : decide ((t.kids.length : Int) = 1) = false := h13
   refine Yc (kq (Ze (Zg (Yk Zc J J E.g0.row (Yt Zl J J J E.g1 ?_)))))
   intro wS38 hgS38 _ BS
   have C4 := E.g1
   replace E := E.s1 hgS38 BS
   have g := Zy g hgS38 (by omega)
   have h := h.keep hgS38 C4 rfl (by omega)
   refine Zb (kq (Zr (Xj J (Yy J Zc J (E.g1.row) (Yf)) ?_)))
   have e : stR F t (ckX F t) S = (annT t [] ty0, (failU (!Bool.xor (decide ((t.kids.length : Int) = 1)) (!tyEqB S.result ty0)) t.pos 7 S)) := by
    unfold stR; rw [Yeg h1, Yeg h2, Yeg h3, Yeg h4, Yeg h5, Yeg h8, Yeg h10, Yfg h11]
    show retR t (ckX F t) S = _
    unfold retR; rw [hd1]; rfl
   rw [e]; exact ⟨Xz (t := annT t [] ty0) rfl (Yka _ _), h, g⟩
  have hr : Bool.xor (decide ((t.kids.length : Int) = 1)) (!tyEqB S.result ty0) = false := h12
  have h := h.chk
  have eS : S = (failU (!Bool.xor (decide ((t.kids.length : Int) = 1)) (!tyEqB S.result ty0)) t.pos 7 S) := by rw [hr]; rfl
  rw [eS] at h
  refine Yc (kq (Ze (Ze (Zg (Zx Zi J (Yg Zh J (E.g2.at_ J) (Qu Zf J (Xt J J (Zb (kq (Yv J (fun h15 => ?_) (fun h15 => ?_))))))))))))
  ·have hl1 : t.kids.length = 1 := by have := of_decide_eq_true h15; omega
   have he0 : exprB (Zd t 0) = true := Qh he20 (by omega)
   have hc1 := cn1 hl1
   have Q0 := K 0 (by omega)
   have hd1 : decide ((t.kids.length : Int) = 1) = true := h15
   refine Ze (Zg (Zt J (Zx Zi J (Yg Zh J (E.g2.at_ J) (?_)))))
   obtain ⟨hpe, p_170, c_170, hcell, hkid⟩ := Xs hk0 (i := 0) (by omega)
   refine Ve Zf J J (by omega) hpe (Yk Zc J J hcell (Ya J (Zo Wn Yo (aqc J (aqc J aq0)) J) (CkC.to (Q0.ex he0) [b3, b4, b5] h hkid hbs (by omega) (E.ltm (by simp [selB])) g.size) ?_))
   rintro v172 w172 ⟨⟨p172, c172, rfl, q172, k172⟩, h, g172⟩
   refine ⟨nw1, ?_⟩
   have g := g.trans g172
   replace E := E.gt g172 rfl
   have hk0 := hk0.gt g172 (fun k h => h)
   refine Yh J Zm J ?_
   intro b9 w9 N9
   have l9 := Xm N9 g.size
   have k172 := k172.new N9
   have g := gtg g N9.g
   have h := h.grow (N9.g)
   have hk0 := hk0.grow (N9.g)
   replace E := E.new N9
   refine Yt Zl J J J E.g0 ?_
   intro wS39 hgS39 _ BS
   have C9 := E.g0
   replace E := E.s0 hgS39 BS
   have g := Zy g hgS39 (by omega)
   have h := h.keep hgS39 C9 rfl (by omega)
   have hk0 := hk0.keep hgS39 (fun k hk _ e => by injection e with e; omega)
   have k172 := k172.keep hgS39 (by simp)
   refine Zb (kq (Ze (Ze (Wr [3, 3, 3, 0, 3, 0, 1, 3] [true, true, true, true, true, true, true, true] [0, 1, 3, 7, 0, 16, 63, 127] mix (by kernel_rfl) ?_))))
   have g := gtd g
   replace E := E.dr
   have h := h.grow (G.drew _)
   have hk0 := hk0.grow (G.drew _)
   have k172 := k172.grow (G.drew _)
   obtain ⟨fv, sv, sn, h⟩ := h
   refine Zt J (Ui J (Zx Vi J (Yk Zs J J (h.B.row.part 13 2) (Zx Xa J (Yk Zs J J (E.g0.row.part 5 2) (Xk J (Zo Jf Yo (aqc J (aqc J aq0)) J) (Xya _ _ _) (fun w179 g179 => ?_)))))))
   have g := gtg g g179
   replace E := E.grow g179
   have h := h.grow (g179)
   have hk0 := hk0.grow (g179)
   have k172 := k172.grow (g179)
   refine Wia J (Zb (kq (Yv J (fun h16 => ?_) (fun h16 => ?_))))
   ·have ha1 : Ub ((ckT F (Zd t 0)).ex (failU (!Bool.xor (decide ((t.kids.length : Int) = 1)) (!tyEqB S.result ty0)) t.pos 7 S)).2.result ((ckT F (Zd t 0)).ex (failU (!Bool.xor (decide ((t.kids.length : Int) = 1)) (!tyEqB S.result ty0)) t.pos 7 S)).1.ty = false := by simpa using h16
    have h := h.chk
    refine Zg (Zt J (Zx Zi J (Yg Zh J (E.g3.at_ J) (?_))))
    obtain ⟨hpe, p_184, c_184, hcell, hkid⟩ := Xs hk0 (i := 0) (by omega)
    refine Ve Zf J J (by omega) hpe (Zx Yw J (Yg Zu J (hcell.one (i := 3) J) (Ya J (Zo Yz Yo (aqc J (aqc J (aqc J aq0))) J) (Vj (Zd t 0).pos 7 h) ?_)))
    rintro v187 w187 ⟨rfl, h, g187⟩
    refine ⟨nw1, ?_⟩
    have g := g.trans g187
    replace E := E.gt g187 rfl
    have k172 := k172.gt g187
    refine Zb (kq (Zg (Yk Zc J J E.g0.row (Yb _ J Zf Zm (pqc J pq0) J J ?_))))
    intro b189 w189 N189
    have l189 := Xm N189 g.size
    have k172 := k172.new N189
    have g := gtg g N189.g
    have h := h.grow (N189.g)
    replace E := E.new N189
    refine Zx Zi J (Vz Xb J J J E.g2 ?_)
    intro wS40 hgS40 _ BS
    have C5 := E.g2
    replace E := E.s2 hgS40 BS
    have g := Zy g hgS40 (by omega)
    have h := h.keep hgS40 C5 rfl (by omega)
    have k172 := k172.keep hgS40 (by simp)
    refine Zb (kq (Ze (Zg (Yk Zc J J E.g2.row (Yt Zl J J J E.g3 ?_)))))
    intro wS41 hgS41 _ BS
    have C4 := E.g3
    replace E := E.s3 hgS41 BS
    have g := Zy g hgS41 (by omega)
    have h := h.keep hgS41 C4 rfl (by omega)
    have k172 := k172.keep hgS41 (by simp)
    refine Zb (kq (Zr (Xj J (Yy J Zc J (E.g3.row) (Yf)) ?_)))
    have e : stR F t (ckX F t) S = (annT t [((ckT F (Zd t 0)).ex (failU (!Bool.xor (decide ((t.kids.length : Int) = 1)) (!tyEqB S.result ty0)) t.pos 7 S)).1] ty0, failU (Ub ((ckT F (Zd t 0)).ex (failU (!Bool.xor (decide ((t.kids.length : Int) = 1)) (!tyEqB S.result ty0)) t.pos 7 S)).2.result ((ckT F (Zd t 0)).ex (failU (!Bool.xor (decide ((t.kids.length : Int) = 1)) (!tyEqB S.result ty0)) t.pos 7 S)).1.ty) (Zd t 0).pos 7 ((ckT F (Zd t 0)).ex (failU (!Bool.xor (decide ((t.kids.length : Int) = 1)) (!tyEqB S.result ty0)) t.pos 7 S)).2) := by
     unfold stR; rw [Yeg h1, Yeg h2, Yeg h3, Yeg h4, Yeg h5, Yeg h8, Yeg h10, Yfg h11]
     show retR t (ckX F t) S = _
     unfold retR; rw [Uo (show 0 < t.kids.length by omega), hd1]; rfl
    rw [e, ha1]; exact ⟨Xz (t := annT t [_] ty0) rfl (Uk (ks := [_]) ⟨l189, Ug E.g0⟩ E.g0.row (Wp (k172.kdN q172)) (Nat.le_refl _)), h, g⟩
   have ha1 : Ub ((ckT F (Zd t 0)).ex (failU (!Bool.xor (decide ((t.kids.length : Int) = 1)) (!tyEqB S.result ty0)) t.pos 7 S)).2.result ((ckT F (Zd t 0)).ex (failU (!Bool.xor (decide ((t.kids.length : Int) = 1)) (!tyEqB S.result ty0)) t.pos 7 S)).1.ty = true := by simpa using h16
   have h := h.chk
   refine Yc (kq (Zg (Yk Zc J J E.g0.row (Yb _ J Zf Zm (pqc J pq0) J J ?_))))
   intro b189 w189 N189
   have l189 := Xm N189 g.size
   have k172 := k172.new N189
   have g := gtg g N189.g
   have h := h.grow (N189.g)
   replace E := E.new N189
   refine Zx Zi J (Vz Xb J J J E.g2 ?_)
   intro wS42 hgS42 _ BS
   have C5 := E.g2
   replace E := E.s2 hgS42 BS
   have g := Zy g hgS42 (by omega)
   have h := h.keep hgS42 C5 rfl (by omega)
   have k172 := k172.keep hgS42 (by simp)
   refine Zb (kq (Ze (Zg (Yk Zc J J E.g2.row (Yt Zl J J J E.g3 ?_)))))
   intro wS43 hgS43 _ BS
   have C4 := E.g3
   replace E := E.s3 hgS43 BS
   have g := Zy g hgS43 (by omega)
   have h := h.keep hgS43 C4 rfl (by omega)
   have k172 := k172.keep hgS43 (by simp)
   refine Zb (kq (Zr (Xj J (Yy J Zc J (E.g3.row) (Yf)) ?_)))
   have e : stR F t (ckX F t) S = (annT t [((ckT F (Zd t 0)).ex (failU (!Bool.xor (decide ((t.kids.length : Int) = 1)) (!tyEqB S.result ty0)) t.pos 7 S)).1] ty0, failU (Ub ((ckT F (Zd t 0)).ex (failU (!Bool.xor (decide ((t.kids.length : Int) = 1)) (!tyEqB S.result ty0)) t.pos 7 S)).2.result ((ckT F (Zd t 0)).ex (failU (!Bool.xor (decide ((t.kids.length : Int) = 1)) (!tyEqB S.result ty0)) t.pos 7 S)).1.ty) (Zd t 0).pos 7 ((ckT F (Zd t 0)).ex (failU (!Bool.xor (decide ((t.kids.length : Int) = 1)) (!tyEqB S.result ty0)) t.pos 7 S)).2) := by
    unfold stR; rw [Yeg h1, Yeg h2, Yeg h3, Yeg h4, Yeg h5, Yeg h8, Yeg h10, Yfg h11]
    show retR t (ckX F t) S = _
    unfold retR; rw [Uo (show 0 < t.kids.length by omega), hd1]; rfl
   rw [e, ha1]; exact ⟨Xz (t := annT t [_] ty0) rfl (Uk (ks := [_]) ⟨l189, Ug E.g0⟩ E.g0.row (Wp (k172.kdN q172)) (Nat.le_refl _)), h, g⟩
  have hd1 : decide ((t.kids.length : Int) = 1) = false := h15
  refine Yc (kq (Ze (Zg (Yk Zc J J E.g0.row (Yt Zl J J J E.g1 ?_)))))
  intro wS44 hgS44 _ BS
  have C4 := E.g1
  replace E := E.s1 hgS44 BS
  have g := Zy g hgS44 (by omega)
  have h := h.keep hgS44 C4 rfl (by omega)
  refine Zb (kq (Zr (Xj J (Yy J Zc J (E.g1.row) (Yf)) ?_)))
  have e : stR F t (ckX F t) S = (annT t [] ty0, (failU (!Bool.xor (decide ((t.kids.length : Int) = 1)) (!tyEqB S.result ty0)) t.pos 7 S)) := by
   unfold stR; rw [Yeg h1, Yeg h2, Yeg h3, Yeg h4, Yeg h5, Yeg h8, Yeg h10, Yfg h11]
   show retR t (ckX F t) S = _
   unfold retR; rw [hd1]; rfl
  rw [e]; exact ⟨Xz (t := annT t [] ty0) rfl (Yka _ _), h, g⟩
 replace h11 : t.kind ≠ 20 := of_decide_eq_false h11
 refine Yc (kq (Ze (Zg (?_))))
 obtain ⟨hlo, heo⟩ := Vlf hx h1 h2 h3 h4 h5 h8 h10 h11
 have Qo := K 0 (by omega)
 have hco := Xka (t := t) (i := 0) (by omega)
 rw [← Wm (show 0 < t.kids.length by omega)] at hco
 have hbo := ((Uba F (Zd t 0)).ex S).bd _ hb
 refine Zt J (Zx Zi J (Yg Zh J (E.g2.at_ J) (?_)))
 obtain ⟨hpe, p_195, c_195, hcell, hkid⟩ := Xs hk0 (i := 0) (by omega)
 refine Ve Zf J J (by omega) hpe (Yk Zc J J hcell (Ya J (Zo Wn Yo (aqc J (aqc J aq0)) J) (CkC.to (Qo.ex heo) [b3, b4, b5] h hkid hb (by omega) (E.ltm (by simp [selB])) g.size) ?_))
 rintro v197 w197 ⟨⟨p197, c197, rfl, q197, k197⟩, h, g197⟩
 refine ⟨nw1, ?_⟩
 have g := g.trans g197
 replace E := E.gt g197 rfl
 have hk0 := hk0.gt g197 (fun k h => h)
 refine Yh J Zm J ?_
 intro b10 w10 N10
 have l10 := Xm N10 g.size
 have k197 := k197.new N10
 have g := gtg g N10.g
 have h := h.grow (N10.g)
 have hk0 := hk0.grow (N10.g)
 replace E := E.new N10
 refine Yt Zl J J J E.g0 ?_
 intro wS45 hgS45 _ BS
 have C10 := E.g0
 replace E := E.s0 hgS45 BS
 have g := Zy g hgS45 (by omega)
 have h := h.keep hgS45 C10 rfl (by omega)
 have hk0 := hk0.keep hgS45 (fun k hk _ e => by injection e with e; omega)
 have k197 := k197.keep hgS45 (by simp)
 refine Zb (kq (Ze (Zg (Yk Zc J J E.g0.row (Yb _ J Zf Zm (pqc J pq0) J J ?_)))))
 intro b199 w199 N199
 have l199 := Xm N199 g.size
 have k197 := k197.new N199
 have g := gtg g N199.g
 have h := h.grow (N199.g)
 have hk0 := hk0.grow (N199.g)
 replace E := E.new N199
 have x199_10 := E.ne 0 1 rfl rfl rfl
 have x199_5 := E.ne 0 2 rfl rfl rfl
 have x199_4 := E.ne 0 3 rfl rfl rfl
 have x199_3 := E.ne 0 4 rfl rfl rfl
 refine Zx Zi J (Vz Xb J J J E.g2 ?_)
 intro wS46 hgS46 _ BS
 have C5 := E.g2
 replace E := E.s2 hgS46 BS
 have g := Zy g hgS46 (by omega)
 have h := h.keep hgS46 C5 rfl (by omega)
 have hk0 := hk0.keep hgS46 (fun k hk _ e => by injection e with e; omega)
 have k197 := k197.keep hgS46 (by simp)
 refine Zb (kq (Ze (Ze (Zg (Zx Yd J (Yg Zu J (E.g4.at_ J) (Zb (kq (Yu (Ze (Zg (Xt J J (Zp J (Zb (kq (Yv J (fun h17 => ?_) (fun h17 => ?_)))))))))))))))))
 ·replace h17 : t.kind = 16 := of_decide_eq_true h17
  obtain ⟨hl2, _, he1⟩ := sh16 h17 hx
  have hc2 := cn2 hl2
  have Q1 := K 1 (by omega)
  refine Ze (Wr [3, 0, 3, 0, 3, 3, 0, 2] [true, true, true, true, true, true, true, true] [0, 0, 0, 4, 12, 28, 60, 127] mix (by kernel_rfl) ?_)
  have g := gtd g
  replace E := E.dr
  have h := h.grow (G.drew _)
  have hk0 := hk0.grow (G.drew _)
  have k197 := k197.grow (G.drew _)
  refine Zt J (Yk Zc J J E.g1.row (Zx Zi J (Yg Zh J (E.g4.at_ J) (?_))))
  obtain ⟨hpe, p_209, c_209, hcell, hkid⟩ := Xs hk0 (i := 0) (by omega)
  refine Ve Zf J J (by omega) hpe (Zx Yw J (Yg Zu J (hcell.one (i := 3) J) (Ya J (Zo Vn Yo (aqc J (aqc J (aqc J (aqc J aq0)))) J) (Yqa ((ckT F (Zd t 0)).ex S).1 _ _ 6 (Zd t 0).pos h) ?_)))
  rintro v212 w212 ⟨rfl, h, g212⟩
  refine ⟨nw1, ?_⟩
  have g := g.trans g212
  replace E := E.gt g212 rfl
  have hk0 := hk0.gt g212 (fun k h => h)
  have k197 := k197.gt g212
  refine Zb (kq (Ze (Zg (Zt J (Zx Zi J (Yg Zh J (E.g4.at_ J) (?_)))))))
  obtain ⟨hpe, p_216, c_216, hcell, hkid⟩ := Xs hk0 (i := 1) (by omega)
  refine Ve Zf J J (by omega) hpe (Yk Zc J J hcell (Ya J (Zo Wn Yo (aqc J (aqc J aq0)) J) (CkC.to (Q1.ex he1) [b3, b4, b5, b10, b199] h hkid ((Vlb _ _ _ _).bd _ hbo) (by omega) (E.ltm (by simp [selB])) g.size) ?_))
  rintro v218 w218 ⟨⟨p218, c218, rfl, q218, k218⟩, h, g218⟩
  refine ⟨nw1, ?_⟩
  have g := g.trans g218
  replace E := E.gt g218 rfl
  have hk0 := hk0.gt g218 (fun k h => h)
  have k197 := k197.gt g218
  refine Yh J Zm J ?_
  intro b11 w11 N11
  have l11 := Xm N11 g.size
  have k197 := k197.new N11
  have k218 := k218.new N11
  have g := gtg g N11.g
  have h := h.grow (N11.g)
  have hk0 := hk0.grow (N11.g)
  replace E := E.new N11
  have x11_199 := E.ne 0 1 rfl rfl rfl
  refine Yt Zl J J J E.g0 ?_
  intro wS47 hgS47 _ BS
  have C11 := E.g0
  replace E := E.s0 hgS47 BS
  have g := Zy g hgS47 (by omega)
  have h := h.keep hgS47 C11 rfl (by omega)
  have hk0 := hk0.keep hgS47 (fun k hk _ e => by injection e with e; omega)
  have k197 := k197.keep hgS47 (by simp)
  have k218 := k218.keep hgS47 (by simp)
  refine Zb (kq (Ze (Wr [3, 0, 3, 0, 3, 3, 0, 2] [true, true, true, true, true, true, true, true] [0, 0, 0, 4, 12, 28, 60, 127] mix (by kernel_rfl) ?_)))
  have g := gtd g
  replace E := E.dr
  have h := h.grow (G.drew _)
  have hk0 := hk0.grow (G.drew _)
  have k197 := k197.grow (G.drew _)
  have k218 := k218.grow (G.drew _)
  refine Zt J (Yk Zc J J E.g0.row (Zx Zi J (Yg Zh J (E.g5.at_ J) (?_))))
  obtain ⟨hpe, p_223, c_223, hcell, hkid⟩ := Xs hk0 (i := 1) (by omega)
  refine Ve Zf J J (by omega) hpe (Zx Yw J (Yg Zu J (hcell.one (i := 3) J) (Ya J (Zo Vn Yo (aqc J (aqc J (aqc J (aqc J aq0)))) J) (Yqa ((ckT F (Zd t 1)).ex (wantS ((ckT F (Zd t 0)).ex S).1 6 (Zd t 0).pos ((ckT F (Zd t 0)).ex S).2)).1 _ _ 1 (Zd t 1).pos h) ?_)))
  rintro v226 w226 ⟨rfl, h, g226⟩
  refine ⟨nw1, ?_⟩
  have g := g.trans g226
  replace E := E.gt g226 rfl
  have k197 := k197.gt g226
  have k218 := k218.gt g226
  refine Zb (kq (Zg (?_)))
  have hO199 : OwnN [b3, b4, b5, b10, b11] w.heap.size _ [((ckT F (Zd t 0)).ex S).1] (.slice (some ⟨b199, 0, none⟩) 1 1) := Vqa E.g1 l199 (k197.mono fun k hk _ => ⟨⟨⟨by have := hk.1.1; omega, by have := hk.1.2; simp at this ⊢; omega⟩, hk.2⟩, by have := hk.1.2; simp at this; omega⟩) ⟨⟨l199, by simp; omega⟩, Ug E.g1⟩
  refine Zx Zi J (Yg Zh J (E.g3.at_ J) (Yk Zc J J E.g0.row (Yb _ J Zf Zm (pqc J pq0) J J ?_)))
  intro b230 w230 N230
  have l230 := Xm N230 g.size
  have k218 := k218.new N230
  have g := gtg g N230.g
  have h := h.grow (N230.g)
  have hO199 := hO199.grow (N230.g)
  replace E := E.new N230
  have x230_199 := E.ne 0 2 rfl rfl rfl
  have hOo := hO199
  refine Ur J Zf Zm J (Zk J) hO199 (Zk J) J E.g0.row (Zra k218 q218 (by intro j hj; simp at hj ⊢; omega) (fun j hj => by obtain rfl : b199 = j := (by injection hj); simp)) (by simp) (by have := g.size; omega) ⟨by have := g.size; omega, by have q3 := E.g6.lt; have q4 := E.g5.lt; have q5 := E.g4.lt; have q10 := E.g3.lt; have q11 := E.g1.lt; simp; omega⟩ ?_
  intro a231 c231 w231 hO199 hg231
  replace E := E.sel [false, true, false, true, true, true, true]
  replace E := E.keepX hg231 hOo.ne (by simp [selB])
  have g := Qj g hg231 (fun k hk => hOo.ge k hk)
  have h := h.keepO hg231 hOo (by omega)
  refine Zx Zi J (Vz Xb J J J E.g2 ?_)
  intro wS48 hgS48 _ BS
  have C5 := E.g2
  replace E := E.s2 hgS48 BS
  have g := Zy g hgS48 (by omega)
  have h := h.keep hgS48 C5 rfl (by omega)
  first | have hO199 := hO199.keept hgS48 C5 rfl | have hO199 := hO199.keep hgS48 (by simp)
  refine Zb (kq (Ze (Zg (Yk Zc J J E.g2.row (Yt Zl J J J E.g3 ?_)))))
  intro wS49 hgS49 _ BS
  have C4 := E.g3
  replace E := E.s3 hgS49 BS
  have g := Zy g hgS49 (by omega)
  have h := h.keep hgS49 C4 rfl (by omega)
  first | have hO199 := hO199.keept hgS49 C4 rfl | have hO199 := hO199.keep hgS49 (by simp)
  refine Zb (kq (Zr (Xj J (Yy J Zc J (E.g3.row) (Yf)) ?_)))
  have e : stR F t (ckX F t) S = (annT t [((ckT F (Zd t 0)).ex S).1, ((ckT F (Zd t 1)).ex (wantS ((ckT F (Zd t 0)).ex S).1 6 (Zd t 0).pos ((ckT F (Zd t 0)).ex S).2)).1] ty0, wantS ((ckT F (Zd t 1)).ex (wantS ((ckT F (Zd t 0)).ex S).1 6 (Zd t 0).pos ((ckT F (Zd t 0)).ex S).2)).1 1 (Zd t 1).pos ((ckT F (Zd t 1)).ex (wantS ((ckT F (Zd t 0)).ex S).1 6 (Zd t 0).pos ((ckT F (Zd t 0)).ex S).2)).2) := by
   unfold stR; rw [Yeg h1, Yeg h2, Yeg h3, Yeg h4, Yeg h5, Yeg h8, Yeg h10, Yeg h11]; dsimp only [cond_false]; rw [Uo (show 0 < t.kids.length by omega), Uo (show 1 < t.kids.length by omega), Yfg h17]; rfl
  rw [e]; exact ⟨Xz (t := annT t [_, _] ty0) rfl hO199.kd, h, g⟩
 replace h17 : t.kind ≠ 16 := of_decide_eq_false h17
 refine Ze (Zg (Xt J J (Zp J (Zb (kq (Yv J (fun h18 => ?_) (fun h18 => ?_)))))))
 ·replace h18 : t.kind = 17 := of_decide_eq_true h18
  refine Wr [3, 0, 3, 0, 3, 3, 0, 2] [true, true, true, true, true, true, true, true] [0, 0, 0, 4, 12, 28, 60, 127] mix (by kernel_rfl) ?_
  have g := gtd g
  replace E := E.dr
  have h := h.grow (G.drew _)
  have hk0 := hk0.grow (G.drew _)
  have k197 := k197.grow (G.drew _)
  refine Zt J (Yk Zc J J E.g1.row (Zx Zi J (Yg Zh J (E.g4.at_ J) (?_))))
  obtain ⟨hpe, p_239, c_239, hcell, hkid⟩ := Xs hk0 (i := 0) (by omega)
  refine Ve Zf J J (by omega) hpe (Zx Yw J (Yg Zu J (hcell.one (i := 3) J) (Ya J (Zo Vn Yo (aqc J (aqc J (aqc J (aqc J aq0)))) J) (Yqa ((ckT F (Zd t 0)).ex S).1 _ _ 6 (Zd t 0).pos h) ?_)))
  rintro v242 w242 ⟨rfl, h, g242⟩
  refine ⟨nw1, ?_⟩
  have g := g.trans g242
  replace E := E.gt g242 rfl
  have k197 := k197.gt g242
  refine Zb (kq (Ze (Zg (Yk Zc J J E.g2.row (Yt Zl J J J E.g3 ?_)))))
  intro wS50 hgS50 _ BS
  have C4 := E.g3
  replace E := E.s3 hgS50 BS
  have g := Zy g hgS50 (by omega)
  have h := h.keep hgS50 C4 rfl (by omega)
  have k197 := k197.keep hgS50 (by simp)
  refine Zb (kq (Zr (Xj J (Yy J Zc J (E.g3.row) (Yf)) ?_)))
  have e : stR F t (ckX F t) S = (annT t [((ckT F (Zd t 0)).ex S).1] ty0, wantS ((ckT F (Zd t 0)).ex S).1 6 (Zd t 0).pos ((ckT F (Zd t 0)).ex S).2) := by
   unfold stR; rw [Yeg h1, Yeg h2, Yeg h3, Yeg h4, Yeg h5, Yeg h8, Yeg h10, Yeg h11]; dsimp only [cond_false]; rw [Uo (show 0 < t.kids.length by omega), Yeg h17, Yfg h18]; rfl
  rw [e]; exact ⟨Xz (t := annT t [_] ty0) rfl (Uk (ks := [_]) ⟨l199, Ug E.g0⟩ E.g0.row (Wp (k197.kdN q197)) (Nat.le_refl _)), h, g⟩
 replace h18 : t.kind ≠ 17 := of_decide_eq_false h18
 refine Ze (Zg (Xt J J (Zp J (Zb (kq (Yv J (fun h19 => ?_) (fun h19 => ?_)))))))
 ·replace h19 : t.kind = 21 := of_decide_eq_true h19
  refine Ze (Zg (Zx Xa J (Zx Ws J (Yg Zu J (E.g1.at_ J) (Wja J J (Zt J (Zn J J J (fun _ => Zv Xa (Zk J)) (Zn J J J (fun _ => Zv Ws (Zq J id)) (Yj J J J (Ye Zu (Zq J id) (fun _ => E.g1.at_ J)) (Zn J J J (fun _ => Wba (Zq J id) Xy) (Yi J (fun _ => Zz (Zk J) (Zq J id)) (Zb (kq (Yv J (fun h20 => ?_) (fun h20 => ?_)))))))))))))))
  ·have hp : (decide (((ckT F (Zd t 0)).ex S).1.ty.kind = 1) || decide (((ckT F (Zd t 0)).ex S).1.ty.kind = 2)) = false := by
    revert h20; cases decide (((ckT F (Zd t 0)).ex S).1.ty.kind = 1) <;> cases decide (((ckT F (Zd t 0)).ex S).1.ty.kind = 2) <;> decide
   refine Zg (Zt J (Zx Zi J (Yg Zh J (E.g4.at_ J) (?_))))
   obtain ⟨hpe, p_258, c_258, hcell, hkid⟩ := Xs hk0 (i := 0) (by omega)
   refine Ve Zf J J (by omega) hpe (Zx Yw J (Yg Zu J (hcell.one (i := 3) J) (Ya J (Zo Yz Yo (aqc J (aqc J (aqc J aq0))) J) (Vj (Zd t 0).pos 7 h) ?_)))
   rintro v261 w261 ⟨rfl, h, g261⟩
   refine ⟨nw1, ?_⟩
   have g := g.trans g261
   replace E := E.gt g261 rfl
   have k197 := k197.gt g261
   refine Zb (kq (Ze (Zg (Yk Zc J J E.g2.row (Yt Zl J J J E.g3 ?_)))))
   intro wS51 hgS51 _ BS
   have C4 := E.g3
   replace E := E.s3 hgS51 BS
   have g := Zy g hgS51 (by omega)
   have h := h.keep hgS51 C4 rfl (by omega)
   have k197 := k197.keep hgS51 (by simp)
   refine Zb (kq (Zr (Xj J (Yy J Zc J (E.g3.row) (Yf)) ?_)))
   have e : stR F t (ckX F t) S = (annT t [((ckT F (Zd t 0)).ex S).1] ty0, failU (decide (((ckT F (Zd t 0)).ex S).1.ty.kind = 1) || decide (((ckT F (Zd t 0)).ex S).1.ty.kind = 2)) (Zd t 0).pos 7 ((ckT F (Zd t 0)).ex S).2) := by
    unfold stR; rw [Yeg h1, Yeg h2, Yeg h3, Yeg h4, Yeg h5, Yeg h8, Yeg h10, Yeg h11]; dsimp only [cond_false]; rw [Uo (show 0 < t.kids.length by omega), Yeg h17, Yeg h18, Yfg h19]; rfl
   rw [e, hp]; exact ⟨Xz (t := annT t [_] ty0) rfl (Uk (ks := [_]) ⟨l199, Ug E.g0⟩ E.g0.row (Wp (k197.kdN q197)) (Nat.le_refl _)), h, g⟩
  have hp : (decide (((ckT F (Zd t 0)).ex S).1.ty.kind = 1) || decide (((ckT F (Zd t 0)).ex S).1.ty.kind = 2)) = true := by
   revert h20; cases decide (((ckT F (Zd t 0)).ex S).1.ty.kind = 1) <;> cases decide (((ckT F (Zd t 0)).ex S).1.ty.kind = 2) <;> decide
  refine Yc (kq (Ze (Zg (Yk Zc J J E.g2.row (Yt Zl J J J E.g3 ?_)))))
  intro wS52 hgS52 _ BS
  have C4 := E.g3
  replace E := E.s3 hgS52 BS
  have g := Zy g hgS52 (by omega)
  have h := h.keep hgS52 C4 rfl (by omega)
  have k197 := k197.keep hgS52 (by simp)
  refine Zb (kq (Zr (Xj J (Yy J Zc J (E.g3.row) (Yf)) ?_)))
  have e : stR F t (ckX F t) S = (annT t [((ckT F (Zd t 0)).ex S).1] ty0, failU (decide (((ckT F (Zd t 0)).ex S).1.ty.kind = 1) || decide (((ckT F (Zd t 0)).ex S).1.ty.kind = 2)) (Zd t 0).pos 7 ((ckT F (Zd t 0)).ex S).2) := by
   unfold stR; rw [Yeg h1, Yeg h2, Yeg h3, Yeg h4, Yeg h5, Yeg h8, Yeg h10, Yeg h11]; dsimp only [cond_false]; rw [Uo (show 0 < t.kids.length by omega), Yeg h17, Yeg h18, Yfg h19]; rfl
  rw [e, hp]; exact ⟨Xz (t := annT t [_] ty0) rfl (Uk (ks := [_]) ⟨l199, Ug E.g0⟩ E.g0.row (Wp (k197.kdN q197)) (Nat.le_refl _)), h, g⟩
 replace h19 : t.kind ≠ 21 := of_decide_eq_false h19
 refine Yc (kq (Ze (Zg (Yk Zc J J E.g2.row (Yt Zl J J J E.g3 ?_)))))
 intro wS53 hgS53 _ BS
 have C4 := E.g3
 replace E := E.s3 hgS53 BS
 have g := Zy g hgS53 (by omega)
 have h := h.keep hgS53 C4 rfl (by omega)
 have k197 := k197.keep hgS53 (by simp)
 refine Zb (kq (Zr (Xj J (Yy J Zc J (E.g3.row) (Yf)) ?_)))
 have e : stR F t (ckX F t) S = (annT t [((ckT F (Zd t 0)).ex S).1] ty0, ((ckT F (Zd t 0)).ex S).2) := by
  unfold stR; rw [Yeg h1, Yeg h2, Yeg h3, Yeg h4, Yeg h5, Yeg h8, Yeg h10, Yeg h11]; dsimp only [cond_false]; rw [Uo (show 0 < t.kids.length by omega), Yeg h17, Yeg h18, Yeg h19]; rfl
 rw [e]; exact ⟨Xz (t := annT t [_] ty0) rfl (Uk (ks := [_]) ⟨l199, Ug E.g0⟩ E.g0.row (Wp (k197.kdN q197)) (Nat.le_refl _)), h, g⟩
set_option maxHeartbeats 4000000
theorem Ys {w w' : World} {b o j : Nat} {l : List Value} (h : RowAt w b o l) (hg : w.grownBy w' (some j)) (hj : b ≠ j) : RowAt w' b o l := fun i v hi => by
 have h1 := h i v hi
 exact (World.cell?_of_block (hg.block b (World.block_lt_of_cell? w _ h1) fun e => by injection e with e; exact hj e)).trans h1
theorem Qad (t : Nd) (x : Nat → Ck) (S : CSt) : ∀ i, (selA t x S i).1.length = i
 | 0 => rfl
 | i + 1 => by
  show ((selA t x S i).1 ++ [_]).length = _
  rw [List.length_append, Qad t x S i]; rfl
def casA (F c : Nd) (first : Bool) (S : CSt) : Nd × CSt := bif decide ((Zd c 0).kind = 9) then (clnT (Zd c 0), failU first c.pos 6 (openS S)) else (ckT F (Zd c 0)).st (openS S)
theorem Juf {F c : Nd} (hl : c.kids.length = 2) (first : Bool) (S : CSt) : (ckT F c).cas first S = (annT c [(casA F c first S).1, ((ckT F (Zd c 1)).sts (casA F c first S).2).1] ty0, shutS ((ckT F (Zd c 1)).sts (casA F c first S).2).2) := by
 rw [Qw]
 show casR c (ckX F c) first S = _
 unfold casR
 rw [Uo (show 0 < c.kids.length by omega), Uo (show 1 < c.kids.length by omega)]; rfl
theorem Qbd (F c : Nd) (first : Bool) (S : CSt) : Stp (count (Zd c 0)) (openS S) (casA F c first S).2 := by
 unfold casA
 cases decide ((Zd c 0).kind = 9)
 ·exact (Uba F (Zd c 0)).st _
 ·exact ((Stp.refl _).failu _ _ _).mono (Nat.zero_le _)
theorem Vmf {S : CSt} {N : Nat} (hb : Bd S N) : Bd (openS S) (N + 1) :=
 ⟨by have := hb.vl; show S.vars.length ≤ _; omega, by have := hb.nl; show S.next.length ≤ _; omega, fun k hk => by have := hb.nx k hk; omega, hb.lv, by have := hb.sc; show S.scope + 1 ≤ _; omega, fun v hv => by have := hb.vs v hv; omega⟩
theorem Yae {F t : Nd} (K : ∀ i, i < t.kids.length → ∀ j, j < (Zd t i).kids.length → CkOk F (Zd (Zd t i) j)) (hk22 : t.kind = 22) (hx : stmtB t = true) : CkC F Xoa t (selR t (ckX F t)) := by
 intro n0 b S w v N h hkw hb hcn
 have hall := sh22 hk22 hx
 obtain ⟨p, c, rfl, _⟩ := id hkw
 have hlt := h.lt
 have hln := Qt t
 have g := GT.refl mutR n0 w
 refine Yp (m := 81) Uda J J [(0, True, _), (1, True, _)] (Za J (Za J (Zj _))) ?_
 refine Ze (Zg (Wq J (Zk J) J ?_))
 intro b3 w3 N3
 have l3 := Xm N3 g.size
 have g := gtg g N3.g
 have h := h.grow (N3.g)
 have E := (Wo _).new N3
 refine Yh J Zm J ?_
 intro b4 w4 N4
 have l4 := Xm N4 g.size
 have g := gtg g N4.g
 have h := h.grow (N4.g)
 replace E := E.new N4
 refine Zb (kq (Ze (Zg (Yk Zc J J E.g1.row (Ya J (Zo Vg Yo (aqc J aq0) J) (Uw t _ _ _) ?_)))))
 rintro v11 w11 ⟨rfl, g11⟩
 refine ⟨fun _ => g11, ?_⟩
 have g := gtg g g11
 replace E := E.grow g11
 have h := h.grow (g11)
 refine Yh J Zm J ?_
 intro b5 w5 N5
 have l5 := Xm N5 g.size
 have g := gtg g N5.g
 have h := h.grow (N5.g)
 replace E := E.new N5
 refine Yt Zl J J J E.g0 ?_
 intro wS1 hgS1 _ BS
 have C5 := E.g0
 replace E := E.s0 hgS1 BS
 have g := Zy g hgS1 (by omega)
 have h := h.keep hgS1 C5 rfl (by omega)
 refine Zb (kq (Ze (Zg (Zp J (Zb (kq (Ze (Ze (Zg (Zp J (Zb (kq (Yu (?_))))))))))))))
 have hnd1 := E.1
 refine Jy (fun (i : Nat) u1 => (i ≤ t.kids.length ∧ Chk F n0 b (selA t (ckX F t) S i).2.2 u1 ∧ ∃ s, Blk u1 b5 Vd (ndCells (clnT t) s) ∧ OwnN [b3, b4, b5] w.heap.size u1 (selA t (ckX F t) S i).1 s) ∧ GT mutR n0 w u1) _ [(0, True, _), (3, True, _), (4, True, _), (5, True, _)] (fun (i : Nat) => [(6, True, .bool (selA t (ckX F t) S i).2.1), (7, True, .int .i64 i)]) (fun (i : Nat) => t.kids.length - i) (0) ⟨⟨Nat.zero_le _, h, _, E.g0, Wlb _ _ _⟩, g⟩ (Xr (blkE E.g2) (Xr (blkE E.g1) (Ua _))) (Za J (Za J (Za J (Za J (Za J (Za J (Zj _))))))) ?_
 clear E
 rintro i u1 ⟨hI1, gl1⟩ ⟨B3, B4, _⟩
 replace B3 : Blk _ _ _ _ := B3
 replace B4 : Blk _ _ _ _ := B4
 have g := gl1
 obtain ⟨hi, h, s, B5, hO⟩ := hI1
 obtain ⟨sa, sc, rfl⟩ := hO.slice
 have hk0 := hkw.gt gl1 (fun k h => h)
 have hmu : u1.heap.size ≤ u1.heap.size := Nat.le_refl _
 have E := Uwa (L := [(b5, _, _), (b4, _, _), (b3, _, _)]) hnd1 ⟨B5, B4, B3, trivial⟩ rfl
 refine Ze (Ze (Zg (Zt J (Zx Zi J (Yg Zh J (E.g2.at_ J) (Qu Zf J (Zfa J J (Zb (kq (Yv J (fun h1 => ?_) (fun h1 => ?_)))))))))))
 ·replace h1 : i < t.kids.length := by simp only [decide_eq_true_eq] at h1; omega
  obtain ⟨e0, p1, c1, hcell, hkid⟩ := Xs hk0 (i := i) h1
  have hDp : pb p < n0 := Uja hk0 h1
  have hcs := Qh hall h1
  obtain ⟨hk23, hl2, hcm, hbl⟩ := sh23 hcs
  obtain ⟨eg, pg0, cg0, hcg0, hkg0⟩ := Xs hkid (i := 0) (by omega)
  obtain ⟨_, pg1, cg1, hcg1, hkg1⟩ := Xs hkid (i := 1) (by omega)
  have hDg : pb p1 < n0 := Uja hkid (show 0 < (Zd t i).kids.length by omega)
  have hc2 := cn2 hl2
  have Qa := K i h1 0 (by omega)
  have Qb := K i h1 1 (by omega)
  have xi : ckX F t i = ckT F (Zd t i) := Uo h1
  have hbd := (Uuc (Zsd F t) S i).bd _ hb
  have hsc := Zqb t (i + 1)
  have hcN := Utc h1
  have hsc1 : sC t (i + 1) = sC t i + cN t i := rfl
  have hbo := Vmf hbd
  have hba := (Qbd F (Zd t i) (selA t (ckX F t) S i).2.1 (selA t (ckX F t) S i).2.2).bd _ hbo
  have hsb := (Uba F (Zd (Zd t i) 1)).sts (casA F (Zd t i) (selA t (ckX F t) S i).2.1 (selA t (ckX F t) S i).2.2).2
  have hbb := hsb.bd _ hba
  have hs0 := hbd.sc
  have hs1 : 1 ≤ ((ckT F (Zd (Zd t i) 1)).sts (casA F (Zd t i) (selA t (ckX F t) S i).2.1 (selA t (ckX F t) S i).2.2).2).2.scope := by rw [hsb.scope, (Qbd F (Zd t i) (selA t (ckX F t) S i).2.1 (selA t (ckX F t) S i).2.2).scope]; exact Nat.le_add_left 1 _
  have hs2 : ((ckT F (Zd (Zd t i) 1)).sts (casA F (Zd t i) (selA t (ckX F t) S i).2.1 (selA t (ckX F t) S i).2.2).2).2.scope ≤ 100000000 := by have := hbb.sc; omega
  have hs3 : ((ckT F (Zd (Zd t i) 1)).sts (casA F (Zd t i) (selA t (ckX F t) S i).2.1 (selA t (ckX F t) S i).2.2).2).2.vars.length ≤ 100000000 := by have := hbb.vl; omega
  have hOlt := hO.lt
  have hlen := Qad t (ckX F t) S i
  have ea : selA t (ckX F t) S (i + 1) = ((selA t (ckX F t) S i).1 ++ [((ckT F (Zd t i)).cas (selA t (ckX F t) S i).2.1 (selA t (ckX F t) S i).2.2).1], (selA t (ckX F t) S i).2.1 && !decide ((Zd (Zd t i) 0).kind = 9), ((ckT F (Zd t i)).cas (selA t (ckX F t) S i).2.1 (selA t (ckX F t) S i).2.2).2) := by
   show ((selA t (ckX F t) S i).1 ++ [((ckX F t i).cas (selA t (ckX F t) S i).2.1 (selA t (ckX F t) S i).2.2).1], _, _) = _
   rw [xi]
  rw [Juf hl2] at ea
  refine Yc (kq (Ze (Yu (Ze (Zg (Zx Zi J (Yg Zh J (E.g2.at_ J) (Zt J (Ve Zf J J (by omega) e0 (Yk Zc J J hcell (Ya J (Zo Vg Yo (aqc J aq0) J) (Uw (Zd t i) _ _ _) ?_)))))))))))
  rintro v24 w24 ⟨rfl, g24⟩
  refine ⟨fun _ => g24, ?_⟩
  have g := gtg g g24
  replace E := E.grow g24
  have h := h.grow (g24)
  have hcell := hcell.grow (g24)
  have hcg0 := hcg0.grow (g24)
  have hkg0 := hkg0.grow (g24)
  have hcg1 := hcg1.grow (g24)
  have hkg1 := hkg1.grow (g24)
  have hO := hO.grow (g24)
  have hmu := Nat.le_trans hmu ((g24)).size
  refine Yh J Zm J ?_
  intro b8 w8 N8
  have l8 := Xm N8 g.size
  have hO := hO.new N8
  have y8 := Nat.le_trans hmu (Nat.le_of_eq N8.at_.symm)
  have g := gtg g N8.g
  have h := h.grow (N8.g)
  have hcell := hcell.grow (N8.g)
  have hcg0 := hcg0.grow (N8.g)
  have hkg0 := hkg0.grow (N8.g)
  have hcg1 := hcg1.grow (N8.g)
  have hkg1 := hkg1.grow (N8.g)
  have hmu := Nat.le_trans hmu ((N8.g)).size
  replace E := E.new N8
  refine Yt Zl J J J E.g0 ?_
  intro wS2 hgS2 _ BS
  have C8 := E.g0
  replace E := E.s0 hgS2 BS
  have g := Zy g hgS2 (by omega)
  have h := h.keep hgS2 C8 rfl (by omega)
  have hkg0 := hkg0.keep hgS2 (fun k hk _ e => by injection e with e; omega)
  have hkg1 := hkg1.keep hgS2 (fun k hk _ e => by injection e with e; omega)
  have hcell := Ys hcell hgS2 (by omega)
  have hcg0 := Ys hcg0 hgS2 (by omega)
  have hcg1 := Ys hcg1 hgS2 (by omega)
  first | have hO := hO.keept hgS2 C8 rfl | have hO := hO.keep hgS2 (by simp)
  have hmu := Nat.le_trans hmu hgS2.size
  refine Zb (kq (Ze (Zg (Zx Zi J (Yg Zh J (E.g3.at_ J) (Zt J (Ve Zf J J (by omega) e0 (Zx Zi J (Yg Zh J (hcell.one (i := 4) J) (Ve Zf J J (by omega) eg (Yk Zc J J hcg0 (Yh J Zm J ?_))))))))))))
  intro b9 w9 N9
  have l9 := Xm N9 g.size
  have hO := hO.new N9
  have y9 := Nat.le_trans hmu (Nat.le_of_eq N9.at_.symm)
  have g := gtg g N9.g
  have h := h.grow (N9.g)
  have hcell := hcell.grow (N9.g)
  have hcg0 := hcg0.grow (N9.g)
  have hkg0 := hkg0.grow (N9.g)
  have hcg1 := hcg1.grow (N9.g)
  have hkg1 := hkg1.grow (N9.g)
  have hmu := Nat.le_trans hmu ((N9.g)).size
  replace E := E.new N9
  refine Yt Zl J J J E.g0 ?_
  intro wS3 hgS3 _ BS
  have C9 := E.g0
  replace E := E.s0 hgS3 BS
  have g := Zy g hgS3 (by omega)
  have h := h.keep hgS3 C9 rfl (by omega)
  have hkg0 := hkg0.keep hgS3 (fun k hk _ e => by injection e with e; omega)
  have hkg1 := hkg1.keep hgS3 (fun k hk _ e => by injection e with e; omega)
  have hcell := Ys hcell hgS3 (by omega)
  have hcg0 := Ys hcg0 hgS3 (by omega)
  have hcg1 := Ys hcg1 hgS3 (by omega)
  first | have hO := hO.keept hgS3 C9 rfl | have hO := hO.keep hgS3 (by simp)
  have hmu := Nat.le_trans hmu hgS3.size
  refine Zb (kq (Ze (Zg (Zt J (Ya J (Zo Vza Yo (aqc J aq0) J) (Usd h (by omega)) ?_)))))
  rintro v34 w34 ⟨rfl, h, g34⟩
  refine ⟨nw1, ?_⟩
  have g := g.trans g34
  replace E := E.gt g34 rfl
  have hcell := hcell.gt g34 hDp
  have hcg0 := hcg0.gt g34 hDg
  have hkg0 := hkg0.gt g34 (fun k h => h)
  have hcg1 := hcg1.gt g34 hDg
  have hkg1 := hkg1.gt g34 (fun k h => h)
  have hO := hO.gt g34 rfl
  have hmu := Nat.le_trans hmu (g34).size
  refine Zb (kq (Ze (Ze (Zg (Zx Yd J (Yg Zu J (E.g0.at_ J) (Xt J J (Zb (kq (Yv J (fun h2 => ?_) (fun h2 => ?_)))))))))))
  ·replace h2 : (Zd (Zd t i) 0).kind = 9 := of_decide_eq_true h2
   refine Ze (Ze (Zg (Zt J (Wia J (Zb (kq (Yv J (fun h3 => ?_) (fun h3 => ?_))))))))
   ·have hf : (selA t (ckX F t) S i).2.1 = false := by simpa using h3
    refine Zg (Zt J (Zx Zi J (Yg Zh J (E.g4.at_ J) (Zt J (Ve Zf J J (by omega) e0 (Zx Yw J (Yg Zu J (hcell.one (i := 3) J) (Ya J (Zo Yz Yo (aqc J (aqc J (aqc J aq0))) J) (Vj (Zd t i).pos 6 h) ?_))))))))
    rintro v47 w47 ⟨rfl, h, g47⟩
    refine ⟨nw1, ?_⟩
    have g := g.trans g47
    replace E := E.gt g47 rfl
    have hcell := hcell.gt g47 hDp
    have hcg0 := hcg0.gt g47 hDg
    have hcg1 := hcg1.gt g47 hDg
    have hkg1 := hkg1.gt g47 (fun k h => h)
    have hO := hO.gt g47 rfl
    have hmu := Nat.le_trans hmu (g47).size
    have eA : casA F (Zd t i) (selA t (ckX F t) S i).2.1 (selA t (ckX F t) S i).2.2 = (clnT (Zd (Zd t i) 0), failS (Zd t i).pos 6 (openS (selA t (ckX F t) S i).2.2)) := by unfold casA; rw [Yfg h2, hf]; rfl
    have eB : (casA F (Zd t i) (selA t (ckX F t) S i).2.1 (selA t (ckX F t) S i).2.2).2 = failS (Zd t i).pos 6 (openS (selA t (ckX F t) S i).2.2) := by rw [eA]
    rw [← eB] at h
    refine Zb (kq (Ze (Zg (Zp J (Zb (kq (Zg (Yk Zc J J E.g0.row (Ya J (Zo Vg Yo (aqc J aq0) J) (Uw (Zd (Zd t i) 0) _ _ _) ?_)))))))))
    rintro v49 w49 ⟨rfl, g49⟩
    refine ⟨fun _ => g49, ?_⟩
    have g := gtg g g49
    replace E := E.grow g49
    have h := h.grow (g49)
    have hcell := hcell.grow (g49)
    have hcg0 := hcg0.grow (g49)
    have hcg1 := hcg1.grow (g49)
    have hkg1 := hkg1.grow (g49)
    have hO := hO.grow (g49)
    have hmu := Nat.le_trans hmu ((g49)).size
    refine Yb _ J Zf Zm (pqc J pq0) J J ?_
    intro b50 w50 N50
    have l50 := Xm N50 g.size
    have hO := hO.new N50
    have y50 := Nat.le_trans hmu (Nat.le_of_eq N50.at_.symm)
    have g := gtg g N50.g
    have h := h.grow (N50.g)
    have hcell := hcell.grow (N50.g)
    have hcg0 := hcg0.grow (N50.g)
    have hcg1 := hcg1.grow (N50.g)
    have hkg1 := hkg1.grow (N50.g)
    have hmu := Nat.le_trans hmu ((N50.g)).size
    replace E := E.new N50
    have x50_9 := E.ne 0 1 rfl rfl rfl
    have x50_8 := E.ne 0 2 rfl rfl rfl
    have x50_5 := E.ne 0 3 rfl rfl rfl
    have x50_4 := E.ne 0 4 rfl rfl rfl
    have x50_3 := E.ne 0 5 rfl rfl rfl
    have hA : OwnN [b3, b4, b5, b8, b9] u1.heap.size _ [clnT (Zd (Zd t i) 0)] (.slice (some ⟨b50, 0, none⟩) 1 1) := Vqa E.g0 y50 (show Kd _ _ (clnT (Zd (Zd t i) 0)).kids (.slice none 0 0) from Wza _ _) ⟨⟨y50, by simp; omega⟩, Ug E.g0⟩
    obtain ⟨bq, hbq⟩ : ∃ x, x = b50 := ⟨_, rfl⟩
    refine Zx Zi J (Vz Xb J J J E.g2 ?_)
    intro wS4 hgS4 _ BS
    have C8 := E.g2
    replace E := E.s2 hgS4 BS
    have g := Zy g hgS4 (by omega)
    have h := h.keep hgS4 C8 rfl (by omega)
    have hkg1 := hkg1.keep hgS4 (fun k hk _ e => by injection e with e; omega)
    have hcell := Ys hcell hgS4 (by omega)
    have hcg0 := Ys hcg0 hgS4 (by omega)
    have hcg1 := Ys hcg1 hgS4 (by omega)
    first | have hO := hO.keept hgS4 C8 rfl | have hO := hO.keep hgS4 (by simp)
    first | have hA := hA.keept hgS4 C8 rfl | have hA := hA.keep hgS4 (by simp)
    have hmu := Nat.le_trans hmu hgS4.size
    refine Zb (kq (Ze (Ud (gtR n0) [3, 0, 3, 3, 0, 3, 3, 3, 0, 3, 0, 1, 1, 2, 3, 2] [0, 1, 0, 0, 8, 0, 56, 120, 248, 504, 1016, 2044, 4092, 8191, 16383, 32767] mix (by kernel_rfl) [0, 1, 2, 3, 4, 5, 6, 7, 8, 9, 10, 11, 12, 13, 14, 15] J ?_)))
    have g := gtd g
    replace E := E.dr
    have h := h.grow (G.drew _)
    have hcell := hcell.grow (G.drew _)
    have hcg1 := hcg1.grow (G.drew _)
    have hkg1 := hkg1.grow (G.drew _)
    have hO := hO.grow (G.drew _)
    have hA := hA.grow (G.drew _)
    have hmu := Nat.le_trans hmu ((G.drew _)).size
    refine Xc 0 J J (fun _ => Zv Zi (Zk J)) (Vk 1 J J (fun w1 hx => Ye Zh (Zk J) (fun _ => (E.g2.gt hx J).at_ J)) (Xc 2 J J (fun _ => Yl (Zk J)) (Xc 3 J J (fun _ => Zv Zi (Zk J)) (Vk 4 J J (fun w1 hx => Ye Zh (Zk J) (fun _ => (E.g5.gt hx J).at_ J)) (Xc 5 J J (fun _ => Yl (Zk J)) (Xc 6 J J (fun _ => Wj Zf (Zk J) (Zk J) (fun _ => by omega) (fun _ => e0)) (Xc 7 J J (fun _ => Zv Zi (Zk J)) (Vk 8 J J (fun w1 hx => Ye Zh (Zk J) (fun _ => (hcell.gt hx hDp).one (i := 4) J)) (Xc 9 J J (fun _ => Wj Zf (Zk J) Xy (fun _ => by omega) (fun _ => eg)) (Vk 10 J J (fun w1 hx => Xd Zc (Zk J) J (fun _ => hcg1.gt hx hDg)) (Xo 11 J J ?_)))))))))))
    refine Xg (L' := [12, 13, 14, 15]) [3, 0, 3, 3, 0, 3, 3, 3, 0, 3, 0, 2, 1, 2, 3, 2] J J J ?_
    refine Ya J (Zo Qz Yo (aqc J (aqc J aq0)) J) (CkC.to (Qb.sts hbl) [b3, b4, b5, b8, b9, bq] h hkg1 hba (by omega) (List.forall_mem_cons.2 ⟨E.g5.lt, (List.forall_mem_cons.2 ⟨E.g4.lt, (List.forall_mem_cons.2 ⟨E.g3.lt, (List.forall_mem_cons.2 ⟨E.g2.lt, (List.forall_mem_cons.2 ⟨E.g1.lt, (List.forall_mem_cons.2 ⟨by rw [hbq]; first | exact E.g0.lt | exact B55.lt, (List.forall_mem_nil _)⟩)⟩)⟩)⟩)⟩)⟩) hmu) ?_
    rintro v68 w68 ⟨⟨p68, c68, rfl, q68, k68⟩, h, g68⟩
    refine ⟨nw1, ?_⟩
    have g := g.trans g68
    replace E := E.gt g68 rfl
    have hO := hO.gt g68 rfl
    have hA := hA.gt g68 rfl
    have hmu := Nat.le_trans hmu (g68).size
    refine Wa (g68) ?_
    refine Xo 12 J J ?_
    refine Xg (L' := [13, 14, 15]) [3, 0, 3, 3, 0, 3, 3, 3, 0, 3, 0, 2, 1, 2, 3, 2] J J J ?_
    refine Yb _ J Zf Zm (pqc J pq0) J J ?_
    intro b69 w69 N69
    have l69 := Xm N69 g.size
    have k68 := k68.new N69
    have hO := hO.new N69
    have hA := hA.new N69
    have y69 := Nat.le_trans hmu (Nat.le_of_eq N69.at_.symm)
    have g := gtg g N69.g
    have h := h.grow (N69.g)
    have hmu := Nat.le_trans hmu ((N69.g)).size
    replace E := E.new N69
    have x69_50 := E.ne 0 1 rfl rfl rfl
    refine Wa (GT.of_g (N69.g)) ?_
    refine Xo 13 J J ?_
    refine Wt (L' := [14, 15]) [3, 0, 3, 3, 0, 3, 3, 3, 0, 3, 0, 2, 1, 2, 3, 2] J J J J ?_
    have hOo := hA
    refine Ur J Zf Zm J (Zk J) hA (Zk J) J E.g0.row (Zra k68 q68 (by intro j hj; simp at hj ⊢; omega) (fun j hj => by first | (obtain rfl : b50 = j := (by injection hj); rw [← hbq]; simp) | (obtain rfl : b55 = j := (by injection hj); rw [← hbq]; simp))) (by simp) (by have := g.size; omega) ⟨by have := g.size; omega, by have q3 := E.g6.lt; have q4 := E.g5.lt; have q5 := E.g4.lt; have q8 := E.g3.lt; have q9 := E.g2.lt; have q69 := E.g0.lt; simp; omega⟩ ?_
    intro a70 c70 w70 hA hg70
    replace E := E.sel [true, false, true, true, true, true, true]
    replace E := E.keepX hg70 hOo.ne (by simp [selB])
    have g := Qj g hg70 (fun k hk => Nat.le_trans gl1.size (hOo.ge k hk))
    have h := h.keepO hg70 hOo (by have := gl1.size; omega)
    have hmu := Nat.le_trans hmu hg70.size
    try first | have hO := hO.keep (b := b50) hg70 (by simp <;> fail) | have hO := hO.keep (b := b55) hg70 (by simp <;> fail)
    refine Vm ?_
    refine Xc 14 J J (fun _ => Zv Zi (Zk J)) (Xo 15 J J ?_)
    refine Wt (L' := []) [3, 0, 3, 3, 0, 3, 3, 3, 0, 3, 0, 2, 1, 2, 3, 2] J J J J ?_
    refine Vz Xb J J J E.g2 ?_
    intro wS5 hgS5 _ BS
    have C8 := E.g2
    replace E := E.s2 hgS5 BS
    have g := Zy g hgS5 (by omega)
    have h := h.keep hgS5 C8 rfl (by omega)
    first | have hO := hO.keept hgS5 C8 rfl | have hO := hO.keep hgS5 (by simp)
    first | have hA := hA.keept hgS5 C8 rfl | have hA := hA.keep hgS5 (by simp)
    have hmu := Nat.le_trans hmu hgS5.size
    refine Vm ?_
    refine Uq [(0, _, _), (3, _, _), (4, _, _), (5, _, _), (6, _, _), (7, _, _), (8, _, _)] (Za J (Za J (Za J (Za J (Za J (Za J (Za J (Zj _)))))))) (Up (kq (Ze (Zg (Zt J (Ya J (Zo Zwa Yo (aqc J aq0) J) (Jqb h hs2 hs1 hs3) ?_))))))
    rintro v73 w73 ⟨rfl, h, g73⟩
    refine ⟨nw1, ?_⟩
    have g := g.trans g73
    replace E := E.gt g73 rfl
    have hO := hO.gt g73 rfl
    have hA := hA.gt g73 rfl
    have hmu := Nat.le_trans hmu (g73).size
    refine Zb (kq (Zg (?_)))
    have hO := hO.sub (Y := [b3, b4, b5, b8]) (by intro j hj; simp at hj ⊢; omega)
    refine Zx Zi J (Yg Zh J (E.g3.at_ J) (Yk Zc J J E.g2.row (Yb _ J Zf Zm (pqc J pq0) J J ?_)))
    intro b77 w77 N77
    have l77 := Xm N77 g.size
    have hO := hO.new N77
    have hA := hA.new N77
    have y77 := Nat.le_trans hmu (Nat.le_of_eq N77.at_.symm)
    have g := gtg g N77.g
    have h := h.grow (N77.g)
    have hmu := Nat.le_trans hmu ((N77.g)).size
    replace E := E.new N77
    have hOo := hO
    refine Ur J Zf Zm J (Zk J) hO (Zk J) J E.g0.row (Wp (t := annT (Zd t i) [_, _] ty0) (OwnK.kd hA fun k hb => ⟨⟨⟨by have := hb.1.1; have := gl1.size; omega, by have := hb.1.2; simp at this ⊢; omega⟩, hb.2⟩, by intro e; have := hOlt k e.symm; have := hb.1.1; omega⟩)) (by simp; omega) (by have := g.size; omega) ⟨by have := g.size; omega, by have q3 := E.g6.lt; have q4 := E.g5.lt; have q5 := E.g4.lt; have q8 := E.g3.lt; have q77 := E.g0.lt; simp; omega⟩ ?_
    intro a78 c78 w78 hO hg78
    replace E := E.sel [true, false, false, true, true, true, true]
    replace E := E.keepX hg78 hOo.ne (by simp [selB])
    have g := Qj g hg78 (fun k hk => hOo.ge k hk)
    have h := h.keepO hg78 hOo (by have := gl1.size; omega)
    have hmu := Nat.le_trans hmu hg78.size
    refine Zx Zi J (Vz Xb J J J E.g2 ?_)
    intro wS6 hgS6 _ BS
    have C5 := E.g2
    replace E := E.s2 hgS6 BS
    have g := Zy g hgS6 (by omega)
    have h := h.keep hgS6 C5 rfl (by omega)
    first | have hO := hO.keept hgS6 C5 rfl | have hO := hO.keep hgS6 (by simp)
    have hmu := Nat.le_trans hmu hgS6.size
    refine Zb (kq (Zg (Zt J (Qv J J (by omega) (Zp J (Wh [(6, _, _), (7, _, _), (0, _, _), (3, _, _), (4, _, _), (5, _, _)] (Za J (Za J (Za J (Za J (Za J (Za J (Zj _))))))) (Zb (fun a ha => ?_))))))))
    have e6 : (selA t (ckX F t) S (i + 1)).2.1 = false := by rw [ea]; show ((selA t (ckX F t) S i).2.1 && !decide ((Zd (Zd t i) 0).kind = 9)) = false; rw [Yfg h2]; simp
    have e1A := congrArg Prod.fst eA
    have hO := hO.sub (Y := [b3, b4, b5]) (by intro j hj; simp at hj ⊢; omega)
    exact ⟨i + 1, by rw [e6]; exact ha, ⟨⟨h1, by rw [ea]; exact h, _, E.g2, by rw [ea, e1A]; exact hO⟩, g⟩, (Xr (blkE E.g4) (Xr (blkE E.g3) (Ua _))), by omega⟩
   have hf : (selA t (ckX F t) S i).2.1 = true := by simpa using h3
   have eA : casA F (Zd t i) (selA t (ckX F t) S i).2.1 (selA t (ckX F t) S i).2.2 = (clnT (Zd (Zd t i) 0), openS (selA t (ckX F t) S i).2.2) := by unfold casA; rw [Yfg h2, hf]; rfl
   have eB : (casA F (Zd t i) (selA t (ckX F t) S i).2.1 (selA t (ckX F t) S i).2.2).2 = openS (selA t (ckX F t) S i).2.2 := by rw [eA]
   rw [← eB] at h
   refine Yc (kq (Ze (Zg (Zp J (Zb (kq (Zg (Yk Zc J J E.g0.row (Ya J (Zo Vg Yo (aqc J aq0) J) (Uw (Zd (Zd t i) 0) _ _ _) ?_)))))))))
   rintro v49 w49 ⟨rfl, g49⟩
   refine ⟨fun _ => g49, ?_⟩
   have g := gtg g g49
   replace E := E.grow g49
   have h := h.grow (g49)
   have hcell := hcell.grow (g49)
   have hcg0 := hcg0.grow (g49)
   have hcg1 := hcg1.grow (g49)
   have hkg1 := hkg1.grow (g49)
   have hO := hO.grow (g49)
   have hmu := Nat.le_trans hmu ((g49)).size
   refine Yb _ J Zf Zm (pqc J pq0) J J ?_
   intro b50 w50 N50
   have l50 := Xm N50 g.size
   have hO := hO.new N50
   have y50 := Nat.le_trans hmu (Nat.le_of_eq N50.at_.symm)
   have g := gtg g N50.g
   have h := h.grow (N50.g)
   have hcell := hcell.grow (N50.g)
   have hcg0 := hcg0.grow (N50.g)
   have hcg1 := hcg1.grow (N50.g)
   have hkg1 := hkg1.grow (N50.g)
   have hmu := Nat.le_trans hmu ((N50.g)).size
   replace E := E.new N50
   have x50_9 := E.ne 0 1 rfl rfl rfl
   have x50_8 := E.ne 0 2 rfl rfl rfl
   have x50_5 := E.ne 0 3 rfl rfl rfl
   have x50_4 := E.ne 0 4 rfl rfl rfl
   have x50_3 := E.ne 0 5 rfl rfl rfl
   have hA : OwnN [b3, b4, b5, b8, b9] u1.heap.size _ [clnT (Zd (Zd t i) 0)] (.slice (some ⟨b50, 0, none⟩) 1 1) := Vqa E.g0 y50 (show Kd _ _ (clnT (Zd (Zd t i) 0)).kids (.slice none 0 0) from Wza _ _) ⟨⟨y50, by simp; omega⟩, Ug E.g0⟩
   obtain ⟨bq, hbq⟩ : ∃ x, x = b50 := ⟨_, rfl⟩
   refine Zx Zi J (Vz Xb J J J E.g2 ?_)
   intro wS7 hgS7 _ BS
   have C8 := E.g2
   replace E := E.s2 hgS7 BS
   have g := Zy g hgS7 (by omega)
   have h := h.keep hgS7 C8 rfl (by omega)
   have hkg1 := hkg1.keep hgS7 (fun k hk _ e => by injection e with e; omega)
   have hcell := Ys hcell hgS7 (by omega)
   have hcg0 := Ys hcg0 hgS7 (by omega)
   have hcg1 := Ys hcg1 hgS7 (by omega)
   first | have hO := hO.keept hgS7 C8 rfl | have hO := hO.keep hgS7 (by simp)
   first | have hA := hA.keept hgS7 C8 rfl | have hA := hA.keep hgS7 (by simp)
   have hmu := Nat.le_trans hmu hgS7.size
   refine Zb (kq (Ze (Ud (gtR n0) [3, 0, 3, 3, 0, 3, 3, 3, 0, 3, 0, 1, 1, 2, 3, 2] [0, 1, 0, 0, 8, 0, 56, 120, 248, 504, 1016, 2044, 4092, 8191, 16383, 32767] mix (by kernel_rfl) [0, 1, 2, 3, 4, 5, 6, 7, 8, 9, 10, 11, 12, 13, 14, 15] J ?_)))
   have g := gtd g
   replace E := E.dr
   have h := h.grow (G.drew _)
   have hcell := hcell.grow (G.drew _)
   have hcg1 := hcg1.grow (G.drew _)
   have hkg1 := hkg1.grow (G.drew _)
   have hO := hO.grow (G.drew _)
   have hA := hA.grow (G.drew _)
   have hmu := Nat.le_trans hmu ((G.drew _)).size
   refine Xc 0 J J (fun _ => Zv Zi (Zk J)) (Vk 1 J J (fun w1 hx => Ye Zh (Zk J) (fun _ => (E.g2.gt hx J).at_ J)) (Xc 2 J J (fun _ => Yl (Zk J)) (Xc 3 J J (fun _ => Zv Zi (Zk J)) (Vk 4 J J (fun w1 hx => Ye Zh (Zk J) (fun _ => (E.g5.gt hx J).at_ J)) (Xc 5 J J (fun _ => Yl (Zk J)) (Xc 6 J J (fun _ => Wj Zf (Zk J) (Zk J) (fun _ => by omega) (fun _ => e0)) (Xc 7 J J (fun _ => Zv Zi (Zk J)) (Vk 8 J J (fun w1 hx => Ye Zh (Zk J) (fun _ => (hcell.gt hx hDp).one (i := 4) J)) (Xc 9 J J (fun _ => Wj Zf (Zk J) Xy (fun _ => by omega) (fun _ => eg)) (Vk 10 J J (fun w1 hx => Xd Zc (Zk J) J (fun _ => hcg1.gt hx hDg)) (Xo 11 J J ?_)))))))))))
   refine Xg (L' := [12, 13, 14, 15]) [3, 0, 3, 3, 0, 3, 3, 3, 0, 3, 0, 2, 1, 2, 3, 2] J J J ?_
   refine Ya J (Zo Qz Yo (aqc J (aqc J aq0)) J) (CkC.to (Qb.sts hbl) [b3, b4, b5, b8, b9, bq] h hkg1 hba (by omega) (List.forall_mem_cons.2 ⟨E.g5.lt, (List.forall_mem_cons.2 ⟨E.g4.lt, (List.forall_mem_cons.2 ⟨E.g3.lt, (List.forall_mem_cons.2 ⟨E.g2.lt, (List.forall_mem_cons.2 ⟨E.g1.lt, (List.forall_mem_cons.2 ⟨by rw [hbq]; first | exact E.g0.lt | exact B55.lt, (List.forall_mem_nil _)⟩)⟩)⟩)⟩)⟩)⟩) hmu) ?_
   rintro v68 w68 ⟨⟨p68, c68, rfl, q68, k68⟩, h, g68⟩
   refine ⟨nw1, ?_⟩
   have g := g.trans g68
   replace E := E.gt g68 rfl
   have hO := hO.gt g68 rfl
   have hA := hA.gt g68 rfl
   have hmu := Nat.le_trans hmu (g68).size
   refine Wa (g68) ?_
   refine Xo 12 J J ?_
   refine Xg (L' := [13, 14, 15]) [3, 0, 3, 3, 0, 3, 3, 3, 0, 3, 0, 2, 1, 2, 3, 2] J J J ?_
   refine Yb _ J Zf Zm (pqc J pq0) J J ?_
   intro b69 w69 N69
   have l69 := Xm N69 g.size
   have k68 := k68.new N69
   have hO := hO.new N69
   have hA := hA.new N69
   have y69 := Nat.le_trans hmu (Nat.le_of_eq N69.at_.symm)
   have g := gtg g N69.g
   have h := h.grow (N69.g)
   have hmu := Nat.le_trans hmu ((N69.g)).size
   replace E := E.new N69
   have x69_50 := E.ne 0 1 rfl rfl rfl
   refine Wa (GT.of_g (N69.g)) ?_
   refine Xo 13 J J ?_
   refine Wt (L' := [14, 15]) [3, 0, 3, 3, 0, 3, 3, 3, 0, 3, 0, 2, 1, 2, 3, 2] J J J J ?_
   have hOo := hA
   refine Ur J Zf Zm J (Zk J) hA (Zk J) J E.g0.row (Zra k68 q68 (by intro j hj; simp at hj ⊢; omega) (fun j hj => by first | (obtain rfl : b50 = j := (by injection hj); rw [← hbq]; simp) | (obtain rfl : b55 = j := (by injection hj); rw [← hbq]; simp))) (by simp) (by have := g.size; omega) ⟨by have := g.size; omega, by have q3 := E.g6.lt; have q4 := E.g5.lt; have q5 := E.g4.lt; have q8 := E.g3.lt; have q9 := E.g2.lt; have q69 := E.g0.lt; simp; omega⟩ ?_
   intro a70 c70 w70 hA hg70
   replace E := E.sel [true, false, true, true, true, true, true]
   replace E := E.keepX hg70 hOo.ne (by simp [selB])
   have g := Qj g hg70 (fun k hk => Nat.le_trans gl1.size (hOo.ge k hk))
   have h := h.keepO hg70 hOo (by have := gl1.size; omega)
   have hmu := Nat.le_trans hmu hg70.size
   try first | have hO := hO.keep (b := b50) hg70 (by simp <;> fail) | have hO := hO.keep (b := b55) hg70 (by simp <;> fail)
   refine Vm ?_
   refine Xc 14 J J (fun _ => Zv Zi (Zk J)) (Xo 15 J J ?_)
   refine Wt (L' := []) [3, 0, 3, 3, 0, 3, 3, 3, 0, 3, 0, 2, 1, 2, 3, 2] J J J J ?_
   refine Vz Xb J J J E.g2 ?_
   intro wS8 hgS8 _ BS
   have C8 := E.g2
   replace E := E.s2 hgS8 BS
   have g := Zy g hgS8 (by omega)
   have h := h.keep hgS8 C8 rfl (by omega)
   first | have hO := hO.keept hgS8 C8 rfl | have hO := hO.keep hgS8 (by simp)
   first | have hA := hA.keept hgS8 C8 rfl | have hA := hA.keep hgS8 (by simp)
   have hmu := Nat.le_trans hmu hgS8.size
   refine Vm ?_
   refine Uq [(0, _, _), (3, _, _), (4, _, _), (5, _, _), (6, _, _), (7, _, _), (8, _, _)] (Za J (Za J (Za J (Za J (Za J (Za J (Za J (Zj _)))))))) (Up (kq (Ze (Zg (Zt J (Ya J (Zo Zwa Yo (aqc J aq0) J) (Jqb h hs2 hs1 hs3) ?_))))))
   rintro v73 w73 ⟨rfl, h, g73⟩
   refine ⟨nw1, ?_⟩
   have g := g.trans g73
   replace E := E.gt g73 rfl
   have hO := hO.gt g73 rfl
   have hA := hA.gt g73 rfl
   have hmu := Nat.le_trans hmu (g73).size
   refine Zb (kq (Zg (?_)))
   have hO := hO.sub (Y := [b3, b4, b5, b8]) (by intro j hj; simp at hj ⊢; omega)
   refine Zx Zi J (Yg Zh J (E.g3.at_ J) (Yk Zc J J E.g2.row (Yb _ J Zf Zm (pqc J pq0) J J ?_)))
   intro b77 w77 N77
   have l77 := Xm N77 g.size
   have hO := hO.new N77
   have hA := hA.new N77
   have y77 := Nat.le_trans hmu (Nat.le_of_eq N77.at_.symm)
   have g := gtg g N77.g
   have h := h.grow (N77.g)
   have hmu := Nat.le_trans hmu ((N77.g)).size
   replace E := E.new N77
   have hOo := hO
   refine Ur J Zf Zm J (Zk J) hO (Zk J) J E.g0.row (Wp (t := annT (Zd t i) [_, _] ty0) (OwnK.kd hA fun k hb => ⟨⟨⟨by have := hb.1.1; have := gl1.size; omega, by have := hb.1.2; simp at this ⊢; omega⟩, hb.2⟩, by intro e; have := hOlt k e.symm; have := hb.1.1; omega⟩)) (by simp; omega) (by have := g.size; omega) ⟨by have := g.size; omega, by have q3 := E.g6.lt; have q4 := E.g5.lt; have q5 := E.g4.lt; have q8 := E.g3.lt; have q77 := E.g0.lt; simp; omega⟩ ?_
   intro a78 c78 w78 hO hg78
   replace E := E.sel [true, false, false, true, true, true, true]
   replace E := E.keepX hg78 hOo.ne (by simp [selB])
   have g := Qj g hg78 (fun k hk => hOo.ge k hk)
   have h := h.keepO hg78 hOo (by have := gl1.size; omega)
   have hmu := Nat.le_trans hmu hg78.size
   refine Zx Zi J (Vz Xb J J J E.g2 ?_)
   intro wS9 hgS9 _ BS
   have C5 := E.g2
   replace E := E.s2 hgS9 BS
   have g := Zy g hgS9 (by omega)
   have h := h.keep hgS9 C5 rfl (by omega)
   first | have hO := hO.keept hgS9 C5 rfl | have hO := hO.keep hgS9 (by simp)
   have hmu := Nat.le_trans hmu hgS9.size
   refine Zb (kq (Zg (Zt J (Qv J J (by omega) (Zp J (Wh [(6, _, _), (7, _, _), (0, _, _), (3, _, _), (4, _, _), (5, _, _)] (Za J (Za J (Za J (Za J (Za J (Za J (Zj _))))))) (Zb (fun a ha => ?_))))))))
   have e6 : (selA t (ckX F t) S (i + 1)).2.1 = false := by rw [ea]; show ((selA t (ckX F t) S i).2.1 && !decide ((Zd (Zd t i) 0).kind = 9)) = false; rw [Yfg h2]; simp
   have e1A := congrArg Prod.fst eA
   have hO := hO.sub (Y := [b3, b4, b5]) (by intro j hj; simp at hj ⊢; omega)
   exact ⟨i + 1, by rw [e6]; exact ha, ⟨⟨h1, by rw [ea]; exact h, _, E.g2, by rw [ea, e1A]; exact hO⟩, g⟩, (Xr (blkE E.g4) (Xr (blkE E.g3) (Ua _))), by omega⟩
  replace h2 : (Zd (Zd t i) 0).kind ≠ 9 := of_decide_eq_false h2
  have hst : stmtB (Zd (Zd t i) 0) = true := (Ztd hcm).resolve_left h2
  have eA : casA F (Zd t i) (selA t (ckX F t) S i).2.1 (selA t (ckX F t) S i).2.2 = (ckT F (Zd (Zd t i) 0)).st (openS (selA t (ckX F t) S i).2.2) := by unfold casA; rw [Yeg h2]; rfl
  refine Zg (Zt J (Yk Zc J J E.g0.row (Ya J (Zo Vya Yo (aqc J (aqc J aq0)) J) (CkC.to (Qa.st hst) [b3, b4, b5, b8, b9] h hkg0 hbo (by omega) (E.ltm (by simp [selB])) hmu) ?_)))
  rintro v54 w54 ⟨⟨p54, c54, rfl, q54, k54⟩, h, g54⟩
  refine ⟨nw1, ?_⟩
  have g := g.trans g54
  replace E := E.gt g54 rfl
  have hcell := hcell.gt g54 hDp
  have hcg0 := hcg0.gt g54 hDg
  have hcg1 := hcg1.gt g54 hDg
  have hkg1 := hkg1.gt g54 (fun k h => h)
  have hO := hO.gt g54 rfl
  have hmu := Nat.le_trans hmu (g54).size
  have eB : (casA F (Zd t i) (selA t (ckX F t) S i).2.1 (selA t (ckX F t) S i).2.2).2 = ((ckT F (Zd (Zd t i) 0)).st (openS (selA t (ckX F t) S i).2.2)).2 := by rw [eA]
  rw [← eB] at h
  refine Yb _ J Zf Zm (pqc J pq0) J J ?_
  intro b55 w55 N55
  have l55 := Xm N55 g.size
  have k54 := k54.new N55
  have hO := hO.new N55
  have y55 := Nat.le_trans hmu (Nat.le_of_eq N55.at_.symm)
  have g := gtg g N55.g
  have h := h.grow (N55.g)
  have hcell := hcell.grow (N55.g)
  have hcg0 := hcg0.grow (N55.g)
  have hcg1 := hcg1.grow (N55.g)
  have hkg1 := hkg1.grow (N55.g)
  have hmu := Nat.le_trans hmu ((N55.g)).size
  replace E := E.new N55
  have x55_9 := E.ne 0 1 rfl rfl rfl
  have x55_8 := E.ne 0 2 rfl rfl rfl
  have x55_5 := E.ne 0 3 rfl rfl rfl
  have x55_4 := E.ne 0 4 rfl rfl rfl
  have x55_3 := E.ne 0 5 rfl rfl rfl
  have hA : OwnN [b3, b4, b5, b8, b9] u1.heap.size _ [((ckT F (Zd (Zd t i) 0)).st (openS (selA t (ckX F t) S i).2.2)).1] (.slice (some ⟨b55, 0, none⟩) 1 1) := Vqa E.g0 y55 (k54.mono fun k hk _ => ⟨⟨⟨by have := hk.1.1; omega, by have := hk.1.2; simp at this ⊢; omega⟩, hk.2⟩, by have := hk.1.2; simp at this; omega⟩) ⟨⟨y55, by simp; omega⟩, Ug E.g0⟩
  obtain ⟨bq, hbq⟩ : ∃ x, x = b55 := ⟨_, rfl⟩
  refine Zx Zi J (Vz Xb J J J E.g2 ?_)
  intro wS10 hgS10 _ BS
  have C8 := E.g2
  replace E := E.s2 hgS10 BS
  have g := Zy g hgS10 (by omega)
  have h := h.keep hgS10 C8 rfl (by omega)
  have hkg1 := hkg1.keep hgS10 (fun k hk _ e => by injection e with e; omega)
  have hcell := Ys hcell hgS10 (by omega)
  have hcg0 := Ys hcg0 hgS10 (by omega)
  have hcg1 := Ys hcg1 hgS10 (by omega)
  first | have hO := hO.keept hgS10 C8 rfl | have hO := hO.keep hgS10 (by simp)
  first | have hA := hA.keept hgS10 C8 rfl | have hA := hA.keep hgS10 (by simp)
  have hmu := Nat.le_trans hmu hgS10.size
  refine Zb (kq (Ze (Ud (gtR n0) [3, 0, 3, 3, 0, 3, 3, 3, 0, 3, 0, 1, 1, 2, 3, 2] [0, 1, 0, 0, 8, 0, 56, 120, 248, 504, 1016, 2044, 4092, 8191, 16383, 32767] mix (by kernel_rfl) [0, 1, 2, 3, 4, 5, 6, 7, 8, 9, 10, 11, 12, 13, 14, 15] J ?_)))
  have g := gtd g
  replace E := E.dr
  have h := h.grow (G.drew _)
  have hcell := hcell.grow (G.drew _)
  have hcg1 := hcg1.grow (G.drew _)
  have hkg1 := hkg1.grow (G.drew _)
  have hO := hO.grow (G.drew _)
  have hA := hA.grow (G.drew _)
  have hmu := Nat.le_trans hmu ((G.drew _)).size
  refine Xc 0 J J (fun _ => Zv Zi (Zk J)) (Vk 1 J J (fun w1 hx => Ye Zh (Zk J) (fun _ => (E.g2.gt hx J).at_ J)) (Xc 2 J J (fun _ => Yl (Zk J)) (Xc 3 J J (fun _ => Zv Zi (Zk J)) (Vk 4 J J (fun w1 hx => Ye Zh (Zk J) (fun _ => (E.g5.gt hx J).at_ J)) (Xc 5 J J (fun _ => Yl (Zk J)) (Xc 6 J J (fun _ => Wj Zf (Zk J) (Zk J) (fun _ => by omega) (fun _ => e0)) (Xc 7 J J (fun _ => Zv Zi (Zk J)) (Vk 8 J J (fun w1 hx => Ye Zh (Zk J) (fun _ => (hcell.gt hx hDp).one (i := 4) J)) (Xc 9 J J (fun _ => Wj Zf (Zk J) Xy (fun _ => by omega) (fun _ => eg)) (Vk 10 J J (fun w1 hx => Xd Zc (Zk J) J (fun _ => hcg1.gt hx hDg)) (Xo 11 J J ?_)))))))))))
  refine Xg (L' := [12, 13, 14, 15]) [3, 0, 3, 3, 0, 3, 3, 3, 0, 3, 0, 2, 1, 2, 3, 2] J J J ?_
  refine Ya J (Zo Qz Yo (aqc J (aqc J aq0)) J) (CkC.to (Qb.sts hbl) [b3, b4, b5, b8, b9, bq] h hkg1 hba (by omega) (List.forall_mem_cons.2 ⟨E.g5.lt, (List.forall_mem_cons.2 ⟨E.g4.lt, (List.forall_mem_cons.2 ⟨E.g3.lt, (List.forall_mem_cons.2 ⟨E.g2.lt, (List.forall_mem_cons.2 ⟨E.g1.lt, (List.forall_mem_cons.2 ⟨by rw [hbq]; first | exact B50.lt | exact E.g0.lt, (List.forall_mem_nil _)⟩)⟩)⟩)⟩)⟩)⟩) hmu) ?_
  rintro v68 w68 ⟨⟨p68, c68, rfl, q68, k68⟩, h, g68⟩
  refine ⟨nw1, ?_⟩
  have g := g.trans g68
  replace E := E.gt g68 rfl
  have hO := hO.gt g68 rfl
  have hA := hA.gt g68 rfl
  have hmu := Nat.le_trans hmu (g68).size
  refine Wa (g68) ?_
  refine Xo 12 J J ?_
  refine Xg (L' := [13, 14, 15]) [3, 0, 3, 3, 0, 3, 3, 3, 0, 3, 0, 2, 1, 2, 3, 2] J J J ?_
  refine Yb _ J Zf Zm (pqc J pq0) J J ?_
  intro b69 w69 N69
  have l69 := Xm N69 g.size
  have k68 := k68.new N69
  have hO := hO.new N69
  have hA := hA.new N69
  have y69 := Nat.le_trans hmu (Nat.le_of_eq N69.at_.symm)
  have g := gtg g N69.g
  have h := h.grow (N69.g)
  have hmu := Nat.le_trans hmu ((N69.g)).size
  replace E := E.new N69
  have x69_55 := E.ne 0 1 rfl rfl rfl
  refine Wa (GT.of_g (N69.g)) ?_
  refine Xo 13 J J ?_
  refine Wt (L' := [14, 15]) [3, 0, 3, 3, 0, 3, 3, 3, 0, 3, 0, 2, 1, 2, 3, 2] J J J J ?_
  have hOo := hA
  refine Ur J Zf Zm J (Zk J) hA (Zk J) J E.g0.row (Zra k68 q68 (by intro j hj; simp at hj ⊢; omega) (fun j hj => by first | (obtain rfl : b50 = j := (by injection hj); rw [← hbq]; simp) | (obtain rfl : b55 = j := (by injection hj); rw [← hbq]; simp))) (by simp) (by have := g.size; omega) ⟨by have := g.size; omega, by have q3 := E.g6.lt; have q4 := E.g5.lt; have q5 := E.g4.lt; have q8 := E.g3.lt; have q9 := E.g2.lt; have q69 := E.g0.lt; simp; omega⟩ ?_
  intro a70 c70 w70 hA hg70
  replace E := E.sel [true, false, true, true, true, true, true]
  replace E := E.keepX hg70 hOo.ne (by simp [selB])
  have g := Qj g hg70 (fun k hk => Nat.le_trans gl1.size (hOo.ge k hk))
  have h := h.keepO hg70 hOo (by have := gl1.size; omega)
  have hmu := Nat.le_trans hmu hg70.size
  try first | have hO := hO.keep (b := b50) hg70 (by simp <;> fail) | have hO := hO.keep (b := b55) hg70 (by simp <;> fail)
  refine Vm ?_
  refine Xc 14 J J (fun _ => Zv Zi (Zk J)) (Xo 15 J J ?_)
  refine Wt (L' := []) [3, 0, 3, 3, 0, 3, 3, 3, 0, 3, 0, 2, 1, 2, 3, 2] J J J J ?_
  refine Vz Xb J J J E.g2 ?_
  intro wS11 hgS11 _ BS
  have C8 := E.g2
  replace E := E.s2 hgS11 BS
  have g := Zy g hgS11 (by omega)
  have h := h.keep hgS11 C8 rfl (by omega)
  first | have hO := hO.keept hgS11 C8 rfl | have hO := hO.keep hgS11 (by simp)
  first | have hA := hA.keept hgS11 C8 rfl | have hA := hA.keep hgS11 (by simp)
  have hmu := Nat.le_trans hmu hgS11.size
  refine Vm ?_
  refine Uq [(0, _, _), (3, _, _), (4, _, _), (5, _, _), (6, _, _), (7, _, _), (8, _, _)] (Za J (Za J (Za J (Za J (Za J (Za J (Za J (Zj _)))))))) (Up (kq (Ze (Zg (Zt J (Ya J (Zo Zwa Yo (aqc J aq0) J) (Jqb h hs2 hs1 hs3) ?_))))))
  rintro v73 w73 ⟨rfl, h, g73⟩
  refine ⟨nw1, ?_⟩
  have g := g.trans g73
  replace E := E.gt g73 rfl
  have hO := hO.gt g73 rfl
  have hA := hA.gt g73 rfl
  have hmu := Nat.le_trans hmu (g73).size
  refine Zb (kq (Zg (?_)))
  have hO := hO.sub (Y := [b3, b4, b5, b8]) (by intro j hj; simp at hj ⊢; omega)
  refine Zx Zi J (Yg Zh J (E.g3.at_ J) (Yk Zc J J E.g2.row (Yb _ J Zf Zm (pqc J pq0) J J ?_)))
  intro b77 w77 N77
  have l77 := Xm N77 g.size
  have hO := hO.new N77
  have hA := hA.new N77
  have y77 := Nat.le_trans hmu (Nat.le_of_eq N77.at_.symm)
  have g := gtg g N77.g
  have h := h.grow (N77.g)
  have hmu := Nat.le_trans hmu ((N77.g)).size
  replace E := E.new N77
  have hOo := hO
  refine Ur J Zf Zm J (Zk J) hO (Zk J) J E.g0.row (Wp (t := annT (Zd t i) [_, _] ty0) (OwnK.kd hA fun k hb => ⟨⟨⟨by have := hb.1.1; have := gl1.size; omega, by have := hb.1.2; simp at this ⊢; omega⟩, hb.2⟩, by intro e; have := hOlt k e.symm; have := hb.1.1; omega⟩)) (by simp; omega) (by have := g.size; omega) ⟨by have := g.size; omega, by have q3 := E.g6.lt; have q4 := E.g5.lt; have q5 := E.g4.lt; have q8 := E.g3.lt; have q77 := E.g0.lt; simp; omega⟩ ?_
  intro a78 c78 w78 hO hg78
  replace E := E.sel [true, false, false, true, true, true, true]
  replace E := E.keepX hg78 hOo.ne (by simp [selB])
  have g := Qj g hg78 (fun k hk => hOo.ge k hk)
  have h := h.keepO hg78 hOo (by have := gl1.size; omega)
  have hmu := Nat.le_trans hmu hg78.size
  refine Zx Zi J (Vz Xb J J J E.g2 ?_)
  intro wS12 hgS12 _ BS
  have C5 := E.g2
  replace E := E.s2 hgS12 BS
  have g := Zy g hgS12 (by omega)
  have h := h.keep hgS12 C5 rfl (by omega)
  first | have hO := hO.keept hgS12 C5 rfl | have hO := hO.keep hgS12 (by simp)
  have hmu := Nat.le_trans hmu hgS12.size
  refine Zb (kq (Zg (Zt J (Qv J J (by omega) (Zp J (Wh [(6, _, _), (7, _, _), (0, _, _), (3, _, _), (4, _, _), (5, _, _)] (Za J (Za J (Za J (Za J (Za J (Za J (Zj _))))))) (Zb (fun a ha => ?_))))))))
  have e6 : (selA t (ckX F t) S (i + 1)).2.1 = (selA t (ckX F t) S i).2.1 := by rw [ea]; show ((selA t (ckX F t) S i).2.1 && !decide ((Zd (Zd t i) 0).kind = 9)) = (selA t (ckX F t) S i).2.1; rw [Yeg h2]; simp
  have e1A := congrArg Prod.fst eA
  have hO := hO.sub (Y := [b3, b4, b5]) (by intro j hj; simp at hj ⊢; omega)
  exact ⟨i + 1, by rw [e6]; exact ha, ⟨⟨h1, by rw [ea]; exact h, _, E.g2, by rw [ea, e1A]; exact hO⟩, g⟩, (Xr (blkE E.g4) (Xr (blkE E.g3) (Ua _))), by omega⟩
 replace h1 : i = t.kids.length := by simp only [decide_eq_false_iff_not] at h1; omega
 subst h1
 refine Vq J (kq (Ze (Zg (Yk Zc J J E.g0.row (Yt Zl J J J E.g1 ?_)))))
 intro wS13 hgS13 _ BS
 have C4 := E.g1
 replace E := E.s1 hgS13 BS
 have g := Zy g hgS13 (by omega)
 have h := h.keep hgS13 C4 rfl (by omega)
 first | have hO := hO.keept hgS13 C4 rfl | have hO := hO.keep hgS13 (by simp)
 have hmu := Nat.le_trans hmu hgS13.size
 refine Zb (kq (Zr (Xj J (Yy J Zc J (E.g1.row) (Yf)) ?_)))
 exact ⟨Xz (t := annT t _ ty0) rfl hO.kd, h, g⟩
theorem Zsf {F : Nd} (H : FSh F) : ∀ (n : Nat) (t : Nd), count t ≤ n → CkOk F t := by
 intro n
 induction n with
 | zero => intro t h; exact absurd h (by have := Jo t; omega)
 | succ n ihn =>
  intro t hc
  have K : ∀ i, i < t.kids.length → CkOk F (Zd t i) := fun i h => ihn _ (by have := Zqa h; omega)
  have K2 : ∀ i, i < t.kids.length → ∀ j, j < (Zd t i).kids.length → CkOk F (Zd (Zd t i) j) := fun i h j hj => ihn _ (by have := Zqa h; have := Zqa hj; omega)
  have HM : exprB t = true → t.kind = 28 → CkM F t := fun hx h => Uvc K h hx
  have HE : exprB t = true → CkC F Qp t (ckT F t).ex := fun hx => Zof H K (fun h => Zqf K h hx) hx
  have HS : blockB t = true → CkM' 1000001 F Jt t (ckT F t).sts := fun hb => Uhe K hb
  have HB : blockB t = true → CkC F Zoa t (ckT F t).blk := fun hb => Uge (HS hb)
  have HI : ifB t = true → CkC F Zka t (ckT F t).ifs := fun hb => Jqf K hb
  have HT : stmtB t = true → CkC F Zva t (ckT F t).st := fun hx => Zrf K HB HI (fun h => Yae K2 h hx) hx
  have HR : exprB t = true → CkR F t := fun hx => Wgd H fun h => HM hx h
  have HL : exprB t = true → CkL F t := fun hx => Zze H K (HE hx) hx
  exact ⟨HE, HT, HB, HS, HI, HM, HR, HL⟩
end Go.Rk
