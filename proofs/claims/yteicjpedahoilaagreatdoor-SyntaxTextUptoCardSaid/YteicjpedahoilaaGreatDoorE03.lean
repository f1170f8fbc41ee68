/- Merged texts of one road: ScanC, ScanD, LayP, ScanP, ScanE, ScanF, Str, Tree, Name, Post. Conditions: each text's own. -/
import Derived.Test.YteicjpedahoilaaGreatDoorE02
import Derived.Shelf.LaysC
import Derived.Shelf.Strconv.ParseIntPublic10
import Derived.Test.YteicjpedahoilaaGreatDoorE01
import Derived.Lib.Builder
import Derived.Lib.AppendStr
import Derived.Lib.UnsafeStr
import Derived.Laws.Externs
import Derived.KernelRfl
import Derived.ChangeSame
import Derived.Below
set_option linter.unusedSimpArgs false
set_option linter.unusedVariables false
namespace Go.Rk
open Go Go.RowKit
structure SA (base b : Nat) (s : List UInt8) (p : Nat) (ts cs : List Tok) (ta : Option Addr) (tc : Nat) (ca : Option Addr) (cc : Nat) (w : World) : Prop where
 B : Blk w b Qw [Str s, .int .i64 p, .slice ta ts.length tc, .slice ca cs.length cc]
 hb : base ≤ b
 ht : w.ownsRow base Vf 3 (.slice ta ts.length tc) ts.length (toksCells ts)
 hc : w.ownsRow base Vf 3 (.slice ca cs.length cc) cs.length (toksCells cs)
 n1 : (Value.slice ta ts.length tc).ownBlock ≠ some b
 n2 : (Value.slice ca cs.length cc).ownBlock ≠ some b
 n3 : ∀ k, (Value.slice ta ts.length tc).ownBlock = some k → (Value.slice ca cs.length cc).ownBlock ≠ some k
theorem SA.grow {base b : Nat} {s : List UInt8} {p : Nat} {ts cs : List Tok} {ta : Option Addr} {tc : Nat} {ca : Option Addr} {cc : Nat} {w w1 : World} (h : SA base b s p ts cs ta tc ca cc w) (g : G w w1) : SA base b s p ts cs ta tc ca cc w1 :=
 { h with B := h.B.grow g, ht := Zca h.ht g, hc := Zca h.hc g }
theorem SA.scn {base b : Nat} {s : List UInt8} {p : Nat} {ts cs : List Tok} {ta : Option Addr} {tc : Nat} {ca : Option Addr} {cc : Nat} {w : World} (h : SA base b s p ts cs ta tc ca cc w) (k1 : ts.length ≤ p) (k2 : cs.length ≤ p) (k3 : p ≤ s.length) (k4 : s.length ≤ 20000) : Scn base b s p ts cs w :=
 ⟨ta, tc, ca, cc, h.B, h.hb, h.ht, h.hc, h.n1, h.n2, h.n3, k1, k2, k3, k4⟩
theorem Scn.sa {base b : Nat} {s : List UInt8} {p : Nat} {ts cs : List Tok} {w : World} (h : Scn base b s p ts cs w) : ∃ ta tc ca cc, SA base b s p ts cs ta tc ca cc w ∧ ts.length ≤ p ∧ cs.length ≤ p ∧ p ≤ s.length ∧ s.length ≤ 20000 := by
 obtain ⟨ta, tc, ca, cc, hB, hb0, ht, hc, n1, n2, n3, k1, k2, k3, k4⟩ := h
 exact ⟨ta, tc, ca, cc, ⟨hB, hb0, ht, hc, n1, n2, n3⟩, k1, k2, k3, k4⟩
theorem SA.base_le {base b : Nat} {s : List UInt8} {p : Nat} {ts cs : List Tok} {ta : Option Addr} {tc : Nat} {ca : Option Addr} {cc : Nat} {w : World} (h : SA base b s p ts cs ta tc ca cc w) : base ≤ w.heap.size := by have := h.hb; have := h.B.lt; omega
theorem SA.setp {base b : Nat} {s : List UInt8} {p q : Nat} {ts cs : List Tok} {ta : Option Addr} {tc : Nat} {ca : Option Addr} {cc : Nat} {w w1 : World} (h : SA base b s p ts cs ta tc ca cc w) (hg : w.grownBy w1 (some b))
  (hB : Blk w1 b Qw [Str s, .int .i64 q, .slice ta ts.length tc, .slice ca cs.length cc]) : SA base b s q ts cs ta tc ca cc w1 :=
 { h with B := hB, ht := Vx h.ht hg (.inr h.n1), hc := Vx h.hc hg (.inr h.n2) }
theorem Vya {base b : Nat} {a wk w1 w2 : World} (hb : Below base a wk) (g : G wk w1) (hg : w1.grownBy w2 (some b)) (hz : base ≤ wk.heap.size) (h : base ≤ b) : Below base a w2 := by
 have := g.size
 exact Vd (hb.trans (Ug g hz)) hg (by omega) (fun k hk => by injection hk with hk; omega)
theorem Scn.grow {base b : Nat} {s : List UInt8} {p : Nat} {ts cs : List Tok} {w w1 : World} (h : Scn base b s p ts cs w) (g : G w w1) : Scn base b s p ts cs w1 := by
 obtain ⟨ta, tc, ca, cc, h, k1, k2, k3, k4⟩ := h.sa
 exact (h.grow g).scn k1 k2 k3 k4
theorem SA.putT {base b : Nat} {s : List UInt8} {p : Nat} {ts cs : List Tok} {ta : Option Addr} {tc : Nat} {ca : Option Addr} {cc : Nat} {w w1 w2 : World} {ta' : Option Addr} {tc' : Nat} {t : Tok} (h : SA base b s p ts cs ta tc ca cc w)
  (h1 : w1.ownsRow base Vf 3 (.slice ta' (ts.length + 1) tc') (ts.length + 1) (toksCells ts ++ tokCells t)) (hg : w.grownBy w1 (Value.slice ta ts.length tc).ownBlock)
  (hat : (Value.slice ta' (ts.length + 1) tc').ownBlock = (Value.slice ta ts.length tc).ownBlock ∨ (Value.slice ta' (ts.length + 1) tc').ownBlock = some w.heap.size) (hg2 : w1.grownBy w2 (some b))
  (hB : Blk w2 b Qw [Str s, .int .i64 p, .slice ta' (ts.length + 1) tc', .slice ca cs.length cc]) : SA base b s p (ts ++ [t]) cs ta' tc' ca cc w2 := by
 have n1 := Vib h.B.lt h.n1 hat
 have hl : (ts ++ [t]).length = ts.length + 1 := by simp
 have hc := Vxa h.hc h.n3 hg
 refine ⟨by rw [hl]; exact hB, h.hb, ?_, Vx hc hg2 (.inr h.n2), by rw [hl]; exact n1, h.n2, ?_⟩
 ·rw [hl, Qe]; exact Vx h1 hg2 (.inr n1)
 ·rw [hl]; exact Zia h.hc h.n3 hat
theorem SA.putC {base b : Nat} {s : List UInt8} {p : Nat} {ts cs : List Tok} {ta : Option Addr} {tc : Nat} {ca : Option Addr} {cc : Nat} {w w1 w2 : World} {ca' : Option Addr} {cc' : Nat} {t : Tok} (h : SA base b s p ts cs ta tc ca cc w)
  (h1 : w1.ownsRow base Vf 3 (.slice ca' (cs.length + 1) cc') (cs.length + 1) (toksCells cs ++ tokCells t)) (hg : w.grownBy w1 (Value.slice ca cs.length cc).ownBlock)
  (hat : (Value.slice ca' (cs.length + 1) cc').ownBlock = (Value.slice ca cs.length cc).ownBlock ∨ (Value.slice ca' (cs.length + 1) cc').ownBlock = some w.heap.size) (hg2 : w1.grownBy w2 (some b))
  (hB : Blk w2 b Qw [Str s, .int .i64 p, .slice ta ts.length tc, .slice ca' (cs.length + 1) cc']) : SA base b s p ts (cs ++ [t]) ta tc ca' cc' w2 := by
 have n2 := Vib h.B.lt h.n2 hat
 have hl : (cs ++ [t]).length = cs.length + 1 := by simp
 have n3' : ∀ k, (Value.slice ca cs.length cc).ownBlock = some k → (Value.slice ta ts.length tc).ownBlock ≠ some k := fun k hk he => h.n3 k he hk
 have ht := Vxa h.ht n3' hg
 refine ⟨by rw [hl]; exact hB, h.hb, Vx ht hg2 (.inr h.n1), ?_, h.n1, by rw [hl]; exact n2, ?_⟩
 ·rw [hl, Qe]; exact Vx h1 hg2 (.inr n2)
 ·rw [hl]; exact fun k hk he => Zia h.ht n3' hat k he hk
def endsT (t : Tok) : Bool := (decide (t.kind = 1) || decide (t.kind = 2)) || inB endw t.text
def nlTs (p : Nat) (ts : List Tok) : List Tok := match ts.getLast? with
 | some t => if endsT t = true then ts ++ [⟨4, [59], p⟩] else ts
 | none => ts
theorem row_last {w : World} {b : Nat} {ts0 : List Tok} {t : Tok} (h : RowAt w b 0 (toksCells (ts0 ++ [t]))) : RowAt w b (0 + (((ts0 ++ [t]).length : Nat) - 1 : Int).toNat * 3) (tokCells t) := by
 have e : (((ts0 ++ [t]).length : Nat) - 1 : Int).toNat = ts0.length := by simp
 have k := h.part (ts0.length * 3) 3
 rw [e]
 have e2 : ((toksCells (ts0 ++ [t])).drop (ts0.length * 3)).take 3 = tokCells t := by
  rw [Qe, List.drop_append_of_le_length (by rw [Vwa]; exact Nat.le_refl _), List.drop_of_length_le (by rw [Vwa]; exact Nat.le_refl _)]
  rfl
 rw [e2] at k; exact k
theorem newline_ok (base b : Nat) (s : List UInt8) (p : Nat) (ts cs : List Tok) (w : World) (hs : Scn base b s p ts cs w) (h2 : p < s.length) :
  Ret PP Vta #[.pointer (some ⟨b, 0, none⟩)] w fun v w' => v = .tuple #[] ∧ Scn base b s (p + 1) (nlTs p ts) cs w' ∧ Below base w w' := by
 obtain ⟨ta, tc, ca, cc, hs, k1, k2, k3, k4⟩ := hs.sa
 have g := G.refl w
 have hb : Below base w w := Below.refl _ _
 refine Ym (m := 53) Wka rfl rfl [(0, True, _)] (Za rfl (Zd _)) ?_
 refine Zg fun K1 hK1 => ?_
 refine Zg fun K2 hK2 => ?_
 refine Zf [3, 3, 3, 0, 3, 3] ?_
 refine Zc rfl (fun _ => Zi (Zb rfl)) ?_
 refine Zc rfl (fun _ => Xl (Zb rfl)) ?_
 refine Zc rfl (fun _ => Zm Vp (Zb rfl)) ?_
 refine Ya rfl (Zt Uk (Zb rfl) (fun _ => by first | exact (hs.grow g).B.at_ rfl)) ?_
 refine Zc rfl (fun _ => Xx Xk (Zb rfl)) ?_
 refine Zc rfl (fun _ => Ze (Zb rfl)) ?_
 refine Zj [(0, _, _), (2, _, _)] (Za rfl (Za rfl (Zd _))) ?_
 refine Zh (hK2 _ _ ?_)
 refine Zg fun K3 hK3 => ?_
 refine Zf [3, 3] ?_
 refine Zc rfl (fun _ => Zi (Zb rfl)) ?_
 refine Zc rfl (fun _ => Js (Zb rfl) Zl) ?_
 refine Zj [(0, _, _), (2, _, _), (10, _, _)] (Za rfl (Za rfl (Za rfl (Zd _)))) ?_
 refine Zh (hK3 _ _ ?_)
 refine Zz (Zb rfl) (fun h1 => ?_) (fun h1 => ?_)
 ·have hp : 0 < ts.length := by simp only [decide_eq_true_eq] at h1; omega
  obtain ⟨ts0, t, ets⟩ : ∃ ts0 t, ts = ts0 ++ [t] := by
   rcases List.eq_nil_or_concat ts with e | ⟨l, x, e⟩
   ·rw [e] at hp; cases hp
   ·exact ⟨l, x, by simpa using e⟩
  subst ets
  obtain ⟨bt, ct, ev, _, hrow, _⟩ := Qyb hs.ht hp
  injection ev with e1 e2 e3
  subst e1
  have hrow' := row_last hrow
  have hne : nlTs p (ts0 ++ [t]) = if endsT t = true then (ts0 ++ [t]) ++ [⟨4, [59], p⟩] else ts0 ++ [t] := by simp [nlTs]
  refine Zg fun K4 hK4 => ?_
  refine Zf [3, 3, 3, 0, 3, 3, 3, 0, 1, 2] ?_
  refine Zc rfl (fun _ => Zi (Zb rfl)) ?_
  refine Zc rfl (fun _ => Xl (Zb rfl)) ?_
  refine Zc rfl (fun _ => Zm Vp (Zb rfl)) ?_
  refine Ya rfl (Zt Uk (Zb rfl) (fun _ => by first | exact (hs.grow g).B.at_ rfl)) ?_
  refine Zc rfl (fun _ => Zi (Zb rfl)) ?_
  refine Zc rfl (fun _ => rd_sub (Zb rfl) Zl (fun _ => by omega)) ?_
  refine Zc rfl (fun _ => Uc Xk (Zb rfl) (Zb rfl) (fun _ => by omega)) ?_
  refine Ya rfl (Yb Wc (Zb rfl) rfl (fun _ => hrow')) ?_
  refine Xr rfl Xn rfl ?_
  intro b3 w3 N3
  have l3 := N3.ge g
  have g := g.trans (N3.g)
  have B3 := N3.blk
  refine Yu rfl Vg (Zb rfl) (Zb rfl) rfl rfl B3 rfl rfl ?_
  intro wS1 hgS1 hzS1
  clear B3
  intro B3
  have g := Xo g hgS1 (by intro k hk; injection hk with hk; omega)
  refine Zj [(0, _, _), (3, _, _)] (Za rfl (Za rfl (Zd _))) ?_
  refine Zh (hK4 _ _ ?_)
  refine Zg fun K5 hK5 => ?_
  refine Zf [3, 0, 3, 3, 3, 0, 3, 3, 3, 3, 0, 1, 3] ?_
  refine Zc rfl (fun _ => Zm Qd (Zb rfl)) ?_
  refine Ya rfl (Zt Yy (Zb rfl) (fun _ => B3.at_ rfl)) ?_
  refine Zc rfl (fun _ => Yg (Zb rfl) Zl) ?_
  refine Zc rfl (fun _ => Zi (Zb rfl)) ?_
  refine Zs rfl rfl rfl (fun _ => Zm Qd (Zb rfl)) ?_
  refine Yr rfl rfl rfl (Zt Yy (Zy rfl id) (fun _ => B3.at_ rfl)) ?_
  refine Zs rfl rfl rfl (fun _ => Yg (Zy rfl id) Zl) ?_
  refine Zc rfl (fun _ => Yz (Zb rfl) (Zy rfl id)) ?_
  refine Zc rfl (fun _ => Zi (Zb rfl)) ?_
  refine Zs rfl rfl rfl (fun _ => Zm Vz (Zb rfl)) ?_
  refine Yr rfl rfl rfl (Zt Yt (Zy rfl id) (fun _ => B3.at_ rfl)) ?_
  refine Xb rfl rfl rfl (fun _ => (Zu Zsc Yl (Zk (Zy rfl id) (Zn)) rfl)) (fun hc => ending_ok _ _) (fun w30 g30 => ?_)
  have g := g.trans (g30)
  replace B3 := B3.grow (g30)
  refine Zc rfl (fun _ => Yz (Zb rfl) (Zy rfl id)) ?_
  refine Zj [(0, _, _), (31, _, _)] (Za rfl (Za rfl (Zd _))) ?_
  refine Zh (hK5 _ _ ?_)
  refine Zz (Zb rfl) (fun h2 => ?_) (fun h2 => ?_)
  ·rw [if_pos (show endsT t = true from h2)] at hne
   have hl : (nlTs p (ts0 ++ [t])).length ≤ p + 1 := by rw [hne, List.length_append]; exact Nat.succ_le_succ k1
   refine Vm [3, 3, 3, 3, 0, 3, 3, 3, 0, 3, 1, 2, 3, 3, 2] [true, true, true, true, true, true, true, true, true, true, true, true, true, true, true] [0, 0, 2, 6, 14, 0, 32, 96, 224, 480, 992, 2046, 4095, 8191, 16383] mix (by kernel_rfl) ?_
   have g := g.trans (G.drew _)
   replace B3 := B3.grow (G.drew _)
   refine Zc rfl (fun _ => Zi (Zb rfl)) ?_
   refine Zc rfl (fun _ => Zi (Zb rfl)) ?_
   refine Zc rfl (fun _ => Xl (Zb rfl)) ?_
   refine Zc rfl (fun _ => Zm Vp (Zb rfl)) ?_
   refine Ya rfl (Zt Uk (Zb rfl) (fun _ => by first | exact (hs.grow g).B.at_ rfl | exact B3.at_ rfl | exact B3.row)) ?_
   refine Zc rfl (fun _ => Zi (Zb rfl)) ?_
   refine Zc rfl (fun _ => Xl (Zb rfl)) ?_
   refine Zc rfl (fun _ => Zm Yx (Zb rfl)) ?_
   refine Ya rfl (Zt Yy (Zb rfl) (fun _ => by first | exact (hs.grow g).B.at_ rfl | exact B3.at_ rfl | exact B3.row)) ?_
   refine Zc rfl (fun _ => We [_, _, _] Xn rfl Vw (Zp Zl (Zp Zl (Zp (Zb rfl) (Yc)))) rfl) ?_
   refine Zx [_, _, _] rfl Xk Xn (Zp (Zb rfl) (Yc)) rfl rfl ?_
   intro b42 w42 N42
   have x42_3 := N42.ne B3
   have l42 := N42.ge g
   have g := g.trans (N42.g)
   replace B3 := B3.grow (N42.g)
   have B42 := N42.blk
   have hb := hb.trans (Ug g hs.base_le)
   have hs := hs.grow g
   have hz0 := hs.base_le
   refine Jt rfl Xk Xn rfl (by decide) (Zb rfl) hs.ht (Zb rfl) rfl N42.blk.row rfl (by simp only [maxLen]; omega) (by omega) (by omega) ?_
   intro ta' tc' w43 ht' hg43 hat
   have hB := hs.B.keep hg43 (Ne.symm hs.n1)
   have hz := hg43.size
   refine Zc rfl (fun _ => Xl (Zb rfl)) ?_
   refine Zc rfl (fun _ => Zm Vp (Zb rfl)) ?_
   refine Us rfl Yya (Zb rfl) (Zb rfl) rfl rfl hB rfl rfl ?_
   intro w44 hg44 hz44 hB
   have hb := Vd (Vd hb hg43 hs.base_le (fun k hk => (hs.ht.lt k hk).1)) hg44 (by have := hs.base_le; omega) (fun k hk => by injection hk with hk; have := hs.hb; omega)
   have hs := hs.putT (t := ⟨4, [59], p⟩) ht' hg43 hat hg44 hB
   have g := G.refl w44
   refine Zj [(0, _, _)] (Za rfl (Zd _)) ?_
   refine Zh (hK1 _ _ ?_)
   refine Zf [3, 3, 3, 0, 3, 3, 3, 2] ?_
   refine Zc rfl (fun _ => Zi (Zb rfl)) ?_
   refine Zc rfl (fun _ => Xl (Zb rfl)) ?_
   refine Zc rfl (fun _ => Zm Yx (Zb rfl)) ?_
   refine Ya rfl (Zt Yy (Zb rfl) (fun _ => by first | exact (hs.grow g).B.at_ rfl | exact B3.at_ rfl | exact B3.row | exact B42.at_ rfl | exact B42.row)) ?_
   refine Zc rfl (fun _ => Xq (Zb rfl) Zl (fun _ => by omega)) ?_
   refine Zc rfl (fun _ => Xl (Zb rfl)) ?_
   refine Zc rfl (fun _ => Zm Yx (Zb rfl)) ?_
   refine Us rfl Yxa (Zb rfl) (Zb rfl) rfl rfl (hs.grow g).B rfl rfl ?_
   intro w52 hg52 hz52 hB
   have hb := Vya hb g hg52 hs.base_le hs.hb
   have hs := (hs.grow g).setp (q := p + 1) hg52 hB
   refine Zj [] (Zd _) ?_
   refine Zh (Xs rfl ?_)
   refine ⟨rfl, ?_, hb⟩
   rw [hne] at hl ⊢
   exact hs.scn hl (by omega) (by omega) k4
  rw [if_neg (by intro h; rw [endsT, h2] at h; cases h)] at hne
  have hl : (nlTs p (ts0 ++ [t])).length ≤ p + 1 := by rw [hne]; omega
  refine Yq (hK1 _ _ ?_)
  refine Yi [(0, _, _)] (Za rfl (Zd _)) ?_
  refine Zf [3, 3, 3, 0, 3, 3, 3, 2] ?_
  refine Zc rfl (fun _ => Zi (Zb rfl)) ?_
  refine Zc rfl (fun _ => Xl (Zb rfl)) ?_
  refine Zc rfl (fun _ => Zm Yx (Zb rfl)) ?_
  refine Ya rfl (Zt Yy (Zb rfl) (fun _ => by first | exact (hs.grow g).B.at_ rfl | exact B3.at_ rfl | exact B3.row)) ?_
  refine Zc rfl (fun _ => Xq (Zb rfl) Zl (fun _ => by omega)) ?_
  refine Zc rfl (fun _ => Xl (Zb rfl)) ?_
  refine Zc rfl (fun _ => Zm Yx (Zb rfl)) ?_
  refine Us rfl Yxa (Zb rfl) (Zb rfl) rfl rfl (hs.grow g).B rfl rfl ?_
  intro w52 hg52 hz52 hB
  have hb := Vya hb g hg52 hs.base_le hs.hb
  have hs := (hs.grow g).setp (q := p + 1) hg52 hB
  refine Zj [] (Zd _) ?_
  refine Zh (Xs rfl ?_)
  refine ⟨rfl, ?_, hb⟩
  rw [hne] at hl ⊢
  exact hs.scn hl (by omega) (by omega) k4
 have hp : ts = [] := List.eq_nil_of_length_eq_zero (by simp only [decide_eq_false_iff_not] at h1; omega)
 have hne : nlTs p ts = ts := by rw [hp]; rfl
 have hl : (nlTs p ts).length ≤ p + 1 := by rw [hne]; omega
 refine Yq (hK1 _ _ ?_)
 refine Yi [(0, _, _)] (Za rfl (Zd _)) ?_
 refine Zf [3, 3, 3, 0, 3, 3, 3, 2] ?_
 refine Zc rfl (fun _ => Zi (Zb rfl)) ?_
 refine Zc rfl (fun _ => Xl (Zb rfl)) ?_
 refine Zc rfl (fun _ => Zm Yx (Zb rfl)) ?_
 refine Ya rfl (Zt Yy (Zb rfl) (fun _ => by first | exact (hs.grow g).B.at_ rfl)) ?_
 refine Zc rfl (fun _ => Xq (Zb rfl) Zl (fun _ => by omega)) ?_
 refine Zc rfl (fun _ => Xl (Zb rfl)) ?_
 refine Zc rfl (fun _ => Zm Yx (Zb rfl)) ?_
 refine Us rfl Yxa (Zb rfl) (Zb rfl) rfl rfl (hs.grow g).B rfl rfl ?_
 intro w52 hg52 hz52 hB
 have hb := Vya hb g hg52 hs.base_le hs.hb
 have hs := (hs.grow g).setp (q := p + 1) hg52 hB
 refine Zj [] (Zd _) ?_
 refine Zh (Xs rfl ?_)
 refine ⟨rfl, ?_, hb⟩
 rw [hne] at hl ⊢
 exact hs.scn hl (by omega) (by omega) k4
end Go.Rk
namespace Go.Rk
open Go Go.RowKit
def runN (q : Int → Bool) : List UInt8 → Nat
 | [] => 0
 | c :: l => if q c.toNat = true then runN q l + 1 else 0
theorem Vjb {q : Int → Bool} {s : List UInt8} {k : Nat} (h : k < s.length) (hq : q (s.getD k 0).toNat = true) : runN q (s.drop k) = runN q (s.drop (k + 1)) + 1 := by
 rw [List.drop_eq_getElem_cons h, runN, if_pos (by simpa [List.getD_eq_getElem?_getD, List.getElem?_eq_getElem h] using hq)]
theorem runN_stop {q : Int → Bool} {s : List UInt8} {k : Nat} (h : k < s.length → q (s.getD k 0).toNat = false) : runN q (s.drop k) = 0 := by
 by_cases hk : k < s.length
 ·rw [List.drop_eq_getElem_cons hk, runN, if_neg]
  have := h hk
  simp [List.getD_eq_getElem?_getD, List.getElem?_eq_getElem hk] at this
  simp [this]
 ·rw [List.drop_of_length_le (by omega)]; rfl
theorem runN_le (q : Int → Bool) (l : List UInt8) : runN q l ≤ l.length := by
 induction l with
 | nil => exact Nat.le_refl _
 | cons c l ih => rw [runN]; split <;> simp <;> omega
theorem run_ok (base b : Nat) (s : List UInt8) (p : Nat) (ts cs : List Tok) (w : World) (hs : Scn base b s p ts cs w) (f : Nat) (q : Int → Bool) (hgo : goFn PP f = true) (hf : ∀ c w, Ret PP f #[.int .u8 c] w fun v w' => v = .bool (q c) ∧ G w w') :
  Ret PP Zsb #[.pointer (some ⟨b, 0, none⟩), .func (.func f) #[] #[]] w fun v w' => v = .int .i64 (runN q (s.drop p)) ∧ G w w' := by
 obtain ⟨ta, tc, ca, cc, hs, k1, k2, k3, k4⟩ := hs.sa
 have g := G.refl w
 refine Ym (m := 36) Qia rfl rfl [(0, True, _), (1, True, _)] (Za rfl (Za rfl (Zd _))) ?_
 refine Zg fun K1 hK1 => ?_
 refine Zf [3] ?_
 refine Zc rfl (fun _ => Ze Zl) ?_
 refine Zh (hK1 _ _ ?_)
 refine Zg fun K2 hK2 => ?_
 refine Zf [3] ?_
 refine Zc rfl (fun _ => Ze Zl) ?_
 refine Zh (hK2 _ _ ?_)
 refine Zg fun K3 hK3 => ?_
 refine Yp ?_
 refine Zba (fun (n : Nat) u => p + n ≤ s.length ∧ runN q (s.drop p) = n + runN q (s.drop (p + n)) ∧ G w u) (fun n => [(0, True, .pointer (some ⟨b, 0, none⟩)), (1, True, .func (.func f) #[] #[]), (5, True, .int .i64 n)]) (fun n => s.length - n) 0 ⟨by omega, by simp, g⟩ (Za rfl (Za rfl (Za rfl (Zd _)))) ?_
 rintro n u ⟨hn, he, g⟩
 refine Zg fun K4 hK4 => ?_
 refine Zg fun K5 hK5 => ?_
 refine Vm [3, 3, 3, 0, 3, 3, 3, 3, 3, 0, 3, 3, 3, 3, 3, 3, 3, 0, 3, 3, 3, 0, 3, 3, 3, 1, 3] [true, true, true, true, true, true, true, true, true, true, true, true, true, true, true, true, true, true, true, true, true, true, true, true, true, true, true] [0, 1, 3, 7, 0, 31, 0, 64, 192, 448, 960, 2047, 4095, 8191, 8191, 24575, 57343, 122879, 8191, 270335, 794623, 1843199, 8191, 8134655, 16769023, 33554431, 67108863] mix (by kernel_rfl) ?_
 have g := g.trans (G.drew _)
 refine Zc rfl (fun _ => Zi (Zb rfl)) ?_
 refine Zc rfl (fun _ => Xl (Zb rfl)) ?_
 refine Zc rfl (fun _ => Zm Yx (Zb rfl)) ?_
 refine Ya rfl (Zt Yy (Zb rfl) (fun _ => by first | exact (hs.grow g).B.at_ rfl)) ?_
 refine Zc rfl (fun _ => Zi (Zb rfl)) ?_
 refine Zc rfl (fun _ => Xq (Zb rfl) (Zb rfl) (fun _ => by omega)) ?_
 refine Zc rfl (fun _ => Zi (Zb rfl)) ?_
 refine Zc rfl (fun _ => Xl (Zb rfl)) ?_
 refine Zc rfl (fun _ => Zm Wf (Zb rfl)) ?_
 refine Ya rfl (Zt Yt (Zb rfl) (fun _ => by first | exact (hs.grow g).B.at_ rfl)) ?_
 refine Zc rfl (fun _ => Wz Yv (Zb rfl)) ?_
 refine Zc rfl (fun _ => Vh (Zb rfl) (Zb rfl)) ?_
 refine Zc rfl (fun _ => Zi (Zb rfl)) ?_
 refine Zs rfl rfl rfl (fun _ => Zi (Zb rfl)) ?_
 refine Zs rfl rfl rfl (fun _ => Zi (Zb rfl)) ?_
 refine Zs rfl rfl rfl (fun _ => Xl (Zy rfl id)) ?_
 refine Zs rfl rfl rfl (fun _ => Zm Wf (Zy rfl id)) ?_
 refine Yr rfl rfl rfl (Zt Yt (Zy rfl id) (fun _ => by first | exact (hs.grow g).B.at_ rfl)) ?_
 refine Zs rfl rfl rfl (fun _ => Zi (Zb rfl)) ?_
 refine Zs rfl rfl rfl (fun _ => Xl (Zy rfl id)) ?_
 refine Zs rfl rfl rfl (fun _ => Zm Yx (Zy rfl id)) ?_
 refine Yr rfl rfl rfl (Zt Yy (Zy rfl id) (fun _ => by first | exact (hs.grow g).B.at_ rfl)) ?_
 refine Zs rfl rfl rfl (fun _ => Zi (Zb rfl)) ?_
 refine Zs rfl rfl rfl (fun _ => Xq (Zy rfl id) (Zy rfl id) (fun _ => by omega)) ?_
 refine Zs rfl rfl rfl (fun _ => Uf Yv (Zy rfl id) (Zy rfl id) (fun hc => by have := of_decide_eq_true hc.2; omega)) ?_
 refine Xb rfl rfl rfl (fun _ => (Zu hgo (Zy rfl id) (Zk (Zy rfl id) (Zn)) rfl)) (fun hc => hf _ _) (fun w31 g31 => ?_)
 have g := g.trans (g31)
 refine Zc rfl (fun _ => Ye (Zb rfl) (Zy rfl id)) ?_
 refine Zj [(0, _, _), (1, _, _), (5, _, _), (32, _, _)] (Za rfl (Za rfl (Za rfl (Za rfl (Zd _))))) ?_
 refine Zh (hK5 _ _ ?_)
 refine Zz (Zb rfl) (fun h1 => ?_) (fun h1 => ?_)
 ·simp only [Bool.and_eq_true, decide_eq_true_eq] at h1
  obtain ⟨h1, h2⟩ := h1
  have e : ((p : Int) + n).toNat = p + n := by omega
  rw [e] at h2
  have hst := Vjb (by omega) h2
  refine Yq (hK4 _ _ ?_)
  refine Yi [(0, _, _), (1, _, _), (5, _, _)] (Za rfl (Za rfl (Za rfl (Zd _)))) ?_
  refine Yp ?_
  refine Zf [3, 3, 3] ?_
  refine Zc rfl (fun _ => Zi (Zb rfl)) ?_
  refine Zc rfl (fun _ => Xq (Zb rfl) Zl (fun _ => by omega)) ?_
  refine Zc rfl (fun _ => Ze (Zb rfl)) ?_
  refine Zj [(0, _, _), (1, _, _), (5, _, _)] (Za rfl (Za rfl (Za rfl (Zd _)))) ?_
  refine Zh (fun a ha => ?_)
  exact ⟨n + 1, ha, ⟨by omega, by rw [he, hst, Nat.add_assoc p n 1]; omega, g⟩, by omega⟩
 have hst : runN q (s.drop (p + n)) = 0 := runN_stop fun hk => by
  have e : ((p : Int) + n).toNat = p + n := by omega
  rw [e, decide_eq_true (by omega : (p : Int) + n < s.length), Bool.true_and] at h1
  exact h1
 refine Wa rfl (hK3 _ _ ?_)
 refine Yi [(5, _, _)] (Za rfl (Zd _)) ?_
 refine Zg fun K6 hK6 => ?_
 refine Zf [3, 3] ?_
 refine Zc rfl (fun _ => Zi (Zb rfl)) ?_
 refine Zc rfl (fun _ => Ze (Zb rfl)) ?_
 refine Zh (hK6 _ _ ?_)
 refine Yi [(4, _, _), (5, _, _), (35, _, _)] (Za rfl (Za rfl (Za rfl (Zd _)))) ?_
 refine Yf (Yj rfl rfl ?_)
 refine ⟨?_, g⟩
 rw [he, hst]; rfl
end Go.Rk
namespace Go.Rk
open Go Go.Shelf Go.RowKit
def laysC174_ren : Go.Shelf.Ren := ⟨fun | 174 => 180 | 247 => 188 | 245 => 189 | 287 => 192 | 279 => 193 | 280 => 194 | 281 => 195 | 282 => 196 | 321 => 197 | 322 => 198 | 316 => 199 | 171 => 132 | 205 => 200 | 243 => 153 | 246 => 162 | 283 => 167 | 284 => 168 | 285 => 169 | 286 => 170 | 129 => 182 | 317 => 181 | 318 => 183 | 319 => 184 | 320 => 185 | 337 => 190 | 338 => 191 | n => n, fun | 9 => 9 | 3 => 3 | 2 => 2 | 75 => 86 | 85 => 153 | 4 => 4 | 167 => 164 | 5 => 5 | 53 => 124 | 175 => 165 | 46 => 160 | 168 => 167 | 37 => 57 | 0 => 0 | 210 => 174 | 21 => 21 | 127 => 89 | 145 => 178 | 143 => 176 | 171 => 145 | 173 => 148 | 212 => 157 | 51 => 158 | 20 => 20 | 213 => 159 | 232 => 170 | 233 => 171 | 80 => 63 | n => n, fun | 15 => 4 | 16 => 5 | 17 => 1 | 18 => 2 | 19 => 3 | n => n⟩
theorem laysC174 : Go.Proofs.LaysC.n174 PP laysC174_ren := {
 mixed := by kernel_rfl
 f129 := Go.Proofs.Tryz.func182.trans (congrArg some (by kernel_rfl))
 f171 := Go.Proofs.Tryz.func132.trans (congrArg some (by kernel_rfl))
 f174 := Go.Proofs.Tryz.func180.trans (congrArg some (by kernel_rfl))
 f205 := Go.Proofs.Tryz.func200.trans (congrArg some (by kernel_rfl))
 f243 := Go.Proofs.Tryz.func153.trans (congrArg some (by kernel_rfl))
 f245 := Go.Proofs.Tryz.func189.trans (congrArg some (by kernel_rfl))
 f246 := Go.Proofs.Tryz.func162.trans (congrArg some (by kernel_rfl))
 f247 := Go.Proofs.Tryz.func188.trans (congrArg some (by kernel_rfl))
 f279 := Go.Proofs.Tryz.func193.trans (congrArg some (by kernel_rfl))
 f280 := Go.Proofs.Tryz.func194.trans (congrArg some (by kernel_rfl))
 f281 := Go.Proofs.Tryz.func195.trans (congrArg some (by kernel_rfl))
 f282 := Go.Proofs.Tryz.func196.trans (congrArg some (by kernel_rfl))
 f283 := Go.Proofs.Tryz.func167.trans (congrArg some (by kernel_rfl))
 f284 := Go.Proofs.Tryz.func168.trans (congrArg some (by kernel_rfl))
 f285 := Go.Proofs.Tryz.func169.trans (congrArg some (by kernel_rfl))
 f286 := Go.Proofs.Tryz.func170.trans (congrArg some (by kernel_rfl))
 f287 := Go.Proofs.Tryz.func192.trans (congrArg some (by kernel_rfl))
 f316 := Go.Proofs.Tryz.func199.trans (congrArg some (by kernel_rfl))
 f317 := Go.Proofs.Tryz.func181.trans (congrArg some (by kernel_rfl))
 f318 := Go.Proofs.Tryz.func183.trans (congrArg some (by kernel_rfl))
 f319 := Go.Proofs.Tryz.func184.trans (congrArg some (by kernel_rfl))
 f320 := Go.Proofs.Tryz.func185.trans (congrArg some (by kernel_rfl))
 f321 := Go.Proofs.Tryz.func197.trans (congrArg some (by kernel_rfl))
 f322 := Go.Proofs.Tryz.func198.trans (congrArg some (by kernel_rfl))
 f337 := Go.Proofs.Tryz.func190.trans (congrArg some (by kernel_rfl))
 f338 := Go.Proofs.Tryz.func191.trans (congrArg some (by kernel_rfl))
 t0 := Go.Proofs.Tryz.underlying0
 a0 := Go.Proofs.Tryz.isAgg0
 z0 := Go.Proofs.Tryz.sizeOf0
 v0 := Go.Proofs.Tryz.zeroValue0
 t2 := Go.Proofs.Tryz.underlying2
 a2 := Go.Proofs.Tryz.isAgg2
 z2 := Go.Proofs.Tryz.sizeOf2
 v2 := Go.Proofs.Tryz.zeroValue2
 t3 := Go.Proofs.Tryz.underlying3
 a3 := Go.Proofs.Tryz.isAgg3
 z3 := Go.Proofs.Tryz.sizeOf3
 v3 := Go.Proofs.Tryz.zeroValue3
 t4 := Go.Proofs.Tryz.underlying4
 a4 := Go.Proofs.Tryz.isAgg4
 z4 := Go.Proofs.Tryz.sizeOf4
 v4 := Go.Proofs.Tryz.zeroValue4
 t5 := Go.Proofs.Tryz.underlying5
 a5 := Go.Proofs.Tryz.isAgg5
 z5 := Go.Proofs.Tryz.sizeOf5
 v5 := Go.Proofs.Tryz.zeroValue5
 t9 := Go.Proofs.Tryz.underlying9
 a9 := Go.Proofs.Tryz.isAgg9
 z9 := Go.Proofs.Tryz.sizeOf9
 v9 := Go.Proofs.Tryz.zeroValue9
 t20 := Go.Proofs.Tryz.underlying20
 a20 := Go.Proofs.Tryz.isAgg20
 z20 := Go.Proofs.Tryz.sizeOf20
 v20 := Go.Proofs.Tryz.zeroValue20
 t21 := Go.Proofs.Tryz.underlying21
 a21 := Go.Proofs.Tryz.isAgg21
 z21 := Go.Proofs.Tryz.sizeOf21
 v21 := Go.Proofs.Tryz.zeroValue21
 t37 := Go.Proofs.Tryz.underlying57
 a37 := Go.Proofs.Tryz.isAgg57
 z37 := Go.Proofs.Tryz.sizeOf57
 v37 := Go.Proofs.Tryz.zeroValue57
 t46 := Go.Proofs.Tryz.underlying160
 a46 := Go.Proofs.Tryz.isAgg160
 z46 := Go.Proofs.Tryz.sizeOf160
 v46 := Go.Proofs.Tryz.zeroValue160
 t51 := Go.Proofs.Tryz.underlying158
 a51 := Go.Proofs.Tryz.isAgg158
 z51 := Go.Proofs.Tryz.sizeOf158
 v51 := Go.Proofs.Tryz.zeroValue158
 t53 := Go.Proofs.Tryz.underlying124
 a53 := Go.Proofs.Tryz.isAgg124
 z53 := Go.Proofs.Tryz.sizeOf124
 v53 := Go.Proofs.Tryz.zeroValue124
 t75 := Go.Proofs.Tryz.underlying86
 a75 := Go.Proofs.Tryz.isAgg86
 z75 := Go.Proofs.Tryz.sizeOf86
 v75 := Go.Proofs.Tryz.zeroValue86
 t85 := Go.Proofs.Tryz.underlying153
 a85 := Go.Proofs.Tryz.isAgg153
 z85 := Go.Proofs.Tryz.sizeOf153
 v85 := Go.Proofs.Tryz.zeroValue153
 t127 := Go.Proofs.Tryz.underlying89
 a127 := Go.Proofs.Tryz.isAgg89
 z127 := Go.Proofs.Tryz.sizeOf89
 v127 := Go.Proofs.Tryz.zeroValue89
 t143 := Go.Proofs.Tryz.underlying176
 a143 := Go.Proofs.Tryz.isAgg176
 z143 := Go.Proofs.Tryz.sizeOf176
 v143 := Go.Proofs.Tryz.zeroValue176
 t145 := Go.Proofs.Tryz.underlying178
 a145 := Go.Proofs.Tryz.isAgg178
 z145 := Go.Proofs.Tryz.sizeOf178
 v145 := Go.Proofs.Tryz.zeroValue178
 t167 := Go.Proofs.Tryz.underlying164
 a167 := Go.Proofs.Tryz.isAgg164
 z167 := Go.Proofs.Tryz.sizeOf164
 v167 := Go.Proofs.Tryz.zeroValue164
 t168 := Go.Proofs.Tryz.underlying167
 a168 := Go.Proofs.Tryz.isAgg167
 z168 := Go.Proofs.Tryz.sizeOf167
 v168 := Go.Proofs.Tryz.zeroValue167
 t171 := Go.Proofs.Tryz.underlying145
 a171 := Go.Proofs.Tryz.isAgg145
 z171 := Go.Proofs.Tryz.sizeOf145
 v171 := Go.Proofs.Tryz.zeroValue145
 t173 := Go.Proofs.Tryz.underlying148
 a173 := Go.Proofs.Tryz.isAgg148
 z173 := Go.Proofs.Tryz.sizeOf148
 v173 := Go.Proofs.Tryz.zeroValue148
 t175 := Go.Proofs.Tryz.underlying165
 a175 := Go.Proofs.Tryz.isAgg165
 z175 := Go.Proofs.Tryz.sizeOf165
 v175 := Go.Proofs.Tryz.zeroValue165
 t210 := Go.Proofs.Tryz.underlying174
 a210 := Go.Proofs.Tryz.isAgg174
 z210 := Go.Proofs.Tryz.sizeOf174
 v210 := Go.Proofs.Tryz.zeroValue174
 t212 := Go.Proofs.Tryz.underlying157
 a212 := Go.Proofs.Tryz.isAgg157
 z212 := Go.Proofs.Tryz.sizeOf157
 v212 := Go.Proofs.Tryz.zeroValue157
 t213 := Go.Proofs.Tryz.underlying159
 a213 := Go.Proofs.Tryz.isAgg159
 z213 := Go.Proofs.Tryz.sizeOf159
 t232 := Go.Proofs.Tryz.underlying170
 a232 := Go.Proofs.Tryz.isAgg170
 z232 := Go.Proofs.Tryz.sizeOf170
 v232 := Go.Proofs.Tryz.zeroValue170
 t233 := Go.Proofs.Tryz.underlying171
 a233 := Go.Proofs.Tryz.isAgg171
 z233 := Go.Proofs.Tryz.sizeOf171
 v233 := Go.Proofs.Tryz.zeroValue171
 g15 := by kernel_rfl
 g16 := by kernel_rfl
 g17 := by kernel_rfl
 g18 := by kernel_rfl
 g19 := by kernel_rfl
 t80 := Go.Proofs.Tryz.underlying63
 a80 := Go.Proofs.Tryz.isAgg63
 z80 := Go.Proofs.Tryz.sizeOf63
 v80 := Go.Proofs.Tryz.zeroValue63
 i0 := by kernel_rfl
 i2 := by kernel_rfl
 i3 := by kernel_rfl
 i4 := by kernel_rfl
 i5 := by kernel_rfl
 i9 := by kernel_rfl
 i20 := by kernel_rfl
 i21 := by kernel_rfl
 i37 := by kernel_rfl
 i46 := by kernel_rfl
 i51 := by kernel_rfl
 i53 := by kernel_rfl
 i75 := by kernel_rfl
 i80 := by kernel_rfl
 i85 := by kernel_rfl
 i127 := by kernel_rfl
 i143 := by kernel_rfl
 i145 := by kernel_rfl
 i167 := by kernel_rfl
 i168 := by kernel_rfl
 i171 := by kernel_rfl
 i173 := by kernel_rfl
 i175 := by kernel_rfl
 i210 := by kernel_rfl
 i212 := by kernel_rfl
 i232 := by kernel_rfl
 i233 := by kernel_rfl
 m15 := by kernel_rfl
 m16 := by kernel_rfl
 m17 := by kernel_rfl
 m18 := by kernel_rfl
 m19 := by kernel_rfl
 c0 := by kernel_rfl
 c2 := by kernel_rfl
 c3 := by kernel_rfl
 c4 := by kernel_rfl
 c5 := by kernel_rfl
 c9 := by kernel_rfl
 c20 := by kernel_rfl
 c21 := by kernel_rfl
 c37 := by kernel_rfl
 c46 := by kernel_rfl
 c51 := by kernel_rfl
 c53 := by kernel_rfl
 c75 := by kernel_rfl
 c80 := by kernel_rfl
 c85 := by kernel_rfl
 c127 := by kernel_rfl
 c143 := by kernel_rfl
 c145 := by kernel_rfl
 c167 := by kernel_rfl
 c168 := by kernel_rfl
 c171 := by kernel_rfl
 c173 := by kernel_rfl
 c175 := by kernel_rfl
 c210 := by kernel_rfl
 c212 := by kernel_rfl
 c213 := by kernel_rfl
 c232 := by kernel_rfl
 c233 := by kernel_rfl }
end Go.Rk
namespace Go.Rk
open Go Go.Shelf Go.RowKit
def valN (a : Nat) (l : List UInt8) : Nat := l.foldl (fun a c => a * 10 + (c.toNat - 48)) a
def allD (l : List UInt8) : Prop := ∀ c ∈ l, 48 ≤ c.toNat ∧ c.toNat ≤ 57
theorem Vza (a : Nat) (c : UInt8) (l : List UInt8) : valN a (c :: l) = valN (a * 10 + (c.toNat - 48)) l := List.foldl_cons ..
theorem valN_ge (l : List UInt8) : ∀ a, a ≤ valN a l := by
 induction l with
 | nil => exact fun a => Nat.le_refl _
 | cons c l ih => intro a; have := ih (a * 10 + (c.toNat - 48)); rw [Vza]; omega
theorem Ygb (M : Nat) (hM : M = 18446744073709551615) : ∀ (l : List UInt8) (a : Nat), allD l → Lib.parseUintM M a l = if l = [] then .ok a else if valN a l ≤ M then .ok (valN a l) else .range
 | [], a, _ => rfl
 | c :: l, a, h => by
  have hc := h c (List.mem_cons_self ..)
  have ih := Ygb M hM l (a * 10 + (c.toNat - 48)) (fun x hx => h x (List.mem_cons_of_mem _ hx))
  have hge := valN_ge l (a * 10 + (c.toNat - 48))
  rw [if_neg (by simp : ¬ (c :: l) = []), Vza]
  rw [Lib.parseUintM, if_pos hc]
  generalize hv : a * 10 + (c.toNat - 48) = v at ih hge ⊢
  by_cases h1 : 1844674407370955162 ≤ a
  ·rw [if_pos h1, if_neg (by omega)]
  ·rw [if_neg h1]
   by_cases h2 : M < v
   ·rw [if_pos h2, if_neg (by omega)]
   ·rw [if_neg h2, ih]
    by_cases hl : l = []
    ·subst hl; rw [if_pos rfl]; rw [if_pos (show valN v [] ≤ M by show v ≤ M; omega)]; rfl
    ·rw [if_neg hl]
theorem parseI_digits (l : List UInt8) (h : allD l) (hne : l ≠ []) : Lib.parseIntB 64 l = if valN 0 l < 9223372036854775808 then .ok (valN 0 l : Int) else .range := by
 cases l with
 | nil => exact absurd rfl hne
 | cons c r =>
  have hc := h c (List.mem_cons_self ..)
  have e1 : (2 : Nat) ^ (64 - 1) = 9223372036854775808 := by decide
  have e2 : (2 : Nat) ^ 64 - 1 = 18446744073709551615 := by decide
  have hm := Ygb _ rfl (c :: r) 0 h
  rw [if_neg (by simp : ¬ (c :: r) = [])] at hm
  simp only [Lib.parseIntB, Lib.parseUintB, e1, e2]
  rw [if_neg (by omega : ¬ (c.toNat = 43 ∨ c.toNat = 45)), if_neg (by simp : ¬ (c :: r) = []), hm]
  by_cases h2 : valN 0 (c :: r) ≤ 18446744073709551615
  ·rw [if_pos h2]
   by_cases h3 : valN 0 (c :: r) < 9223372036854775808
   ·rw [if_pos h3]; simp only []; rw [if_neg (by omega), if_neg (by omega), if_neg (by omega)]
   ·rw [if_neg h3]; simp only []; rw [if_pos (by omega)]
  ·rw [if_neg h2, if_neg (by omega)]
theorem parse_ok (l : List UInt8) (h : allD l) (hne : l ≠ []) (hl : l.length ≤ 20000) (w : World) (ev : Value) (hv : w.cell? ⟨5, 0, none⟩ = some ev) (hev : ev = .nilIface ∨ ∃ te pe, ev = .iface te pe) :
  Ret PP Zub #[Str l, .int .i64 10, .int .i64 64] w fun v w' => (∃ x e, v = .tuple #[.int .i64 x, e] ∧ (e = .nilIface ∨ ∃ a b, e = .iface a b) ∧ nilV e = decide (valN 0 l < 9223372036854775808)) ∧ G w w' := by
 have hp := parseI_digits l h hne
 by_cases h3 : valN 0 l < 9223372036854775808
 ·rw [if_pos h3] at hp
  refine (Go.Proofs.Any.strconv_ParseInt_10_at64_ok laysC174 ⟨l.toArray⟩ (by simp [ByteArray.size]; omega) _ (by simpa using hp) w).mono ?_
  rintro e w' ⟨rfl, hw⟩
  refine ⟨_, rfl, ⟨_, .nilIface, rfl, .inl rfl, by rw [decide_eq_true h3]; rfl⟩, ?_⟩
  rcases hw with rfl | ⟨t, rfl⟩
  ·exact G.refl _
  ·exact Lib.bytesWorld_below _ _ _
 ·rw [if_neg h3] at hp
  refine (Go.Proofs.Any.strconv_ParseInt_10_at64_range laysC174 ⟨l.toArray⟩ (by simp [ByteArray.size]; omega) (by simpa using hp) ev w hv hev).mono ?_
  rintro e w' ⟨N, rfl, _, _, hb⟩
  exact ⟨_, rfl, ⟨_, _, rfl, .inr ⟨_, _, rfl⟩, by rw [decide_eq_false h3]; rfl⟩, hb⟩
end Go.Rk
namespace Go.Rk
open Go Go.RowKit
def opsL : List (List UInt8) := [[58, 61], [61, 61], [33, 61], [60, 61], [62, 61], [38, 38], [124, 124], [60, 45], [40], [41], [91], [93], [123], [125], [44], [59], [58], [46], [61], [60], [62], [43], [45], [42], [47], [37], [33]]
structure Laid (w : World) : Prop where
 ops : RowAt w 0 0 (opsL.map Str)
 err : ∃ ev, w.cell? ⟨5, 0, none⟩ = some ev ∧ (ev = .nilIface ∨ ∃ te pe, ev = .iface te pe)
theorem Laid.below {w w' : World} {base : Nat} (h : Laid w) (hb : 6 ≤ base) (g : Below base w w') : Laid w' :=
 ⟨fun j v hj => (Below.cell g (show 0 < base by omega)).trans (h.ops j v hj), by
  obtain ⟨ev, h1, h2⟩ := h.err
  exact ⟨ev, (Below.cell g (show 5 < base by omega)).trans h1, h2⟩⟩
theorem Laid.grow {w w' : World} (h : Laid w) (g : G w w') : Laid w' :=
 ⟨h.ops.grow g, by
  obtain ⟨ev, h1, h2⟩ := h.err
  exact ⟨ev, Vla g h1, h2⟩⟩
def cAt (s : List UInt8) (p : Nat) : Int := ((s.getD p 0).toNat : Int)
def isNotLf (c : Int) : Bool := !decide (c = 10)
def isAlnum (c : Int) : Bool := letterB c || digitB c
def Zja (l : List UInt8) : Nat := match opsL.find? (fun o => preB o l) with
 | some o => o.length
 | none => 0
def badD (s : List UInt8) (p n : Nat) : Bool := (decide (cAt s p = 48) && decide ((1 : Int) < n)) || (decide ((p : Int) + n < s.length) && letterB (cAt s (p + n)))
def wordK (l : List UInt8) : Int := bif inB kws l then 3 else 1
def nextF (s : List UInt8) (p : Nat) (ts cs : List Tok) : Nat × List Tok × List Tok × Int :=
 bif decide (cAt s p = 10) then (p + 1, nlTs p ts, cs, 0)
 else bif (decide (cAt s p = 32) || decide (cAt s p = 9)) || decide (cAt s p = 13) then (p + 1, ts, cs, 0)
 else bif preB [47, 47] (s.drop p) then (p + runN isNotLf (s.drop p), ts, cs ++ [⟨5, (s.drop p).take (runN isNotLf (s.drop p)), p⟩], 0)
 else bif letterB (cAt s p) then bif decide ((32 : Int) < runN isAlnum (s.drop p)) then (p, ts, cs, 3)
  else (p + runN isAlnum (s.drop p), ts ++ [⟨wordK ((s.drop p).take (runN isAlnum (s.drop p))), (s.drop p).take (runN isAlnum (s.drop p)), p⟩], cs, 0)
 else bif digitB (cAt s p) then bif badD s p (runN digitB (s.drop p)) then (p, ts, cs, 4)
  else bif decide (valN 0 ((s.drop p).take (runN digitB (s.drop p))) < 9223372036854775808) then (p + runN digitB (s.drop p), ts ++ [⟨2, (s.drop p).take (runN digitB (s.drop p)), p⟩], cs, 0) else (p, ts, cs, 4)
 else bif Nat.beq (Zja (s.drop p)) 0 then (p, ts, cs, 4)
 else (p + Zja (s.drop p), ts ++ [⟨4, (s.drop p).take (Zja (s.drop p)), p⟩], cs, 0)
theorem Zka {q : Int → Bool} {s : List UInt8} {p : Nat} (h : p < s.length) (hq : q (cAt s p) = true) : 1 ≤ runN q (s.drop p) := by rw [Vjb h hq]; omega
theorem Jm (q : Int → Bool) {s : List UInt8} {p : Nat} (h : p < s.length) : p + runN q (s.drop p) ≤ s.length := by
 have := runN_le q (s.drop p); rw [List.length_drop] at this; omega
theorem Zxc (q : Int → Bool) : ∀ (l : List UInt8), ∀ c ∈ l.take (runN q l), q c.toNat = true
 | [], c, hc => by cases hc
 | a :: l, c, hc => by
  rw [runN] at hc
  split at hc
  ·rename_i h
   rw [List.take_succ_cons] at hc
   rcases List.mem_cons.mp hc with rfl | hc
   ·exact h
   ·exact Zxc q l c hc
  ·cases hc
theorem Jka (s : List UInt8) (p : Nat) : allD ((s.drop p).take (runN digitB (s.drop p))) := fun c hc => by
 have := Zxc digitB _ c hc
 simp only [digitB, Bool.and_eq_true, decide_eq_true_eq] at this
 omega
theorem opsL_at {i : Nat} (h : i < 27) : (opsL.map Str).toArray[i]? = some (Str (opsL.getD i [])) := by
 have hl : opsL.length = 27 := rfl
 simp [List.getD_eq_getElem?_getD, List.getElem?_eq_getElem (show i < opsL.length by omega)]
theorem opsL_pos : ∀ i < 27, 1 ≤ (opsL.getD i []).length := by decide
theorem opLen_some {l : List UInt8} {i : Nat} (h : i < 27) (h1 : ∀ j < i, preB (opsL.getD j []) l = false) (h2 : preB (opsL.getD i []) l = true) : Zja l = (opsL.getD i []).length := by
 have hl : opsL.length = 27 := rfl
 have : opsL.find? (fun o => preB o l) = some (opsL.getD i []) := by
  rw [List.find?_eq_some_iff_getElem]
  refine ⟨h2, i, by omega, ?_, fun j hj => ?_⟩
  ·simp [List.getD_eq_getElem?_getD, List.getElem?_eq_getElem (show i < opsL.length by omega)]
  ·have := h1 j hj
   simp [List.getD_eq_getElem?_getD, List.getElem?_eq_getElem (show j < opsL.length by omega)] at this
   simp [this]
 rw [Zja, this]
theorem opLen_none {l : List UInt8} (h1 : ∀ j < 27, preB (opsL.getD j []) l = false) : Zja l = 0 := by
 have hl : opsL.length = 27 := rfl
 have : opsL.find? (fun o => preB o l) = none := by
  rw [List.find?_eq_none]
  intro o ho
  obtain ⟨j, hj, rfl⟩ := List.getElem_of_mem ho
  have := h1 j (by omega)
  simp [List.getD_eq_getElem?_getD, List.getElem?_eq_getElem hj] at this
  simp [this]
 rw [Zja, this]
theorem preB_len {o l : List UInt8} (h : preB o l = true) : o.length ≤ l.length ∧ l.take o.length = o := by
 simpa [preB] using h
theorem next_ok (base b : Nat) (hb3 : 6 ≤ base) (s : List UInt8) (p : Nat) (ts cs : List Tok) (w : World) (hL : Laid w) (hs : Scn base b s p ts cs w) (hp : p < s.length) :
  Ret PP Jea #[.pointer (some ⟨b, 0, none⟩)] w fun v w' => v = .int .i64 (nextF s p ts cs).2.2.2 ∧ Scn base b s (nextF s p ts cs).1 (nextF s p ts cs).2.1 (nextF s p ts cs).2.2.1 w' ∧ Below base w w' := by
 obtain ⟨ta, tc, ca, cc, hs, k1, k2, k3, k4⟩ := hs.sa
 have g := G.refl w
 refine Ym (m := 204) Uqa rfl rfl [(0, True, _)] (Za rfl (Zd _)) ?_
 refine Zg fun K1 hK1 => ?_
 refine Zf [3] ?_
 refine Zc rfl (fun _ => Ze Zl) ?_
 refine Zh (hK1 _ _ ?_)
 refine Zg fun K2 hK2 => ?_
 refine Vm [3, 3, 3, 0, 3, 3, 3, 0, 3, 3] [true, true, true, true, true, true, true, true, true, true] [0, 1, 3, 7, 0, 16, 48, 112, 255, 511] mix (by kernel_rfl) ?_
 have g := g.trans (G.drew _)
 refine Zc rfl (fun _ => Zi (Zb rfl)) ?_
 refine Zc rfl (fun _ => Xl (Zb rfl)) ?_
 refine Zc rfl (fun _ => Zm Wf (Zb rfl)) ?_
 refine Ya rfl (Zt Yt (Zb rfl) (fun _ => by first | exact (hs.grow g).B.at_ rfl)) ?_
 refine Zc rfl (fun _ => Zi (Zb rfl)) ?_
 refine Zc rfl (fun _ => Xl (Zb rfl)) ?_
 refine Zc rfl (fun _ => Zm Yx (Zb rfl)) ?_
 refine Ya rfl (Zt Yy (Zb rfl) (fun _ => by first | exact (hs.grow g).B.at_ rfl)) ?_
 refine Zc rfl (fun _ => Uf Yv (Zb rfl) (Zb rfl) (fun _ => by omega)) ?_
 refine Zc rfl (fun _ => Ze (Zb rfl)) ?_
 refine Zj [(0, _, _), (2, _, _), (3, _, _)] (Za rfl (Za rfl (Za rfl (Zd _)))) ?_
 refine Zh (hK2 _ _ ?_)
 refine Zg fun K3 hK3 => ?_
 refine Yp ?_
 refine Zg fun K4 hK4 => ?_
 refine Zf [3, 3, 3] ?_
 refine Zc rfl (fun _ => Zi (Zb rfl)) ?_
 refine Zc rfl (fun _ => Yg (Zb rfl) Zl) ?_
 refine Zc rfl (fun _ => Ze (Zb rfl)) ?_
 refine Zj [(0, _, _), (2, _, _), (3, _, _), (41, _, _)] (Za rfl (Za rfl (Za rfl (Za rfl (Zd _))))) ?_
 refine Zh (hK4 _ _ ?_)
 refine Zz (Zb rfl) (fun h1 => ?_) (fun h1 => ?_)
 ·replace h1 : decide (cAt s p = 10) = true := h1
  have hN : nextF s p ts cs = (p + 1, nlTs p ts, cs, 0) := by unfold nextF; rw [h1]; rfl
  refine Zf [3, 2] ?_
  refine Zc rfl (fun _ => Zi (Zb rfl)) ?_
  refine Yd rfl (Zu Vua Yl (Zk (Zb rfl) (Zn)) rfl) (newline_ok base b s p ts cs _ ((hs.grow g).scn k1 k2 k3 k4) hp) ?_
  rintro v45 w45 ⟨rfl, hs', hb'⟩
  refine ⟨fun h => absurd h (by decide), ?_⟩
  have hb' := (Ug g hs.base_le).trans hb'
  refine Zj [(2, _, _)] (Za rfl (Zd _)) ?_
  refine Zh (hK3 _ _ ?_)
  refine Zg fun K5 hK5 => ?_
  refine Zf [3] ?_
  refine Zc rfl (fun _ => Ze Zl) ?_
  refine Zh (hK5 _ _ ?_)
  refine Yf (Yj rfl rfl ?_)
  rw [hN]; exact ⟨rfl, hs', hb'⟩
 replace h1 : decide (cAt s p = 10) = false := h1
 refine Zg fun K6 hK6 => ?_
 refine Zf [3, 3, 3, 3, 3, 3, 3, 3, 3, 3, 3] ?_
 refine Zc rfl (fun _ => Zi (Zb rfl)) ?_
 refine Zc rfl (fun _ => Yg (Zb rfl) Zl) ?_
 refine Zc rfl (fun _ => Zi (Zb rfl)) ?_
 refine Zs rfl rfl rfl (fun _ => Zi (Zb rfl)) ?_
 refine Zs rfl rfl rfl (fun _ => Yg (Zy rfl id) Zl) ?_
 refine Zc rfl (fun _ => Yz (Zb rfl) (Zy rfl id)) ?_
 refine Zc rfl (fun _ => Zi (Zb rfl)) ?_
 refine Zs rfl rfl rfl (fun _ => Zi (Zb rfl)) ?_
 refine Zs rfl rfl rfl (fun _ => Yg (Zy rfl id) Zl) ?_
 refine Zc rfl (fun _ => Yz (Zb rfl) (Zy rfl id)) ?_
 refine Zc rfl (fun _ => Ze (Zb rfl)) ?_
 refine Zj [(0, _, _), (2, _, _), (3, _, _), (46, _, _)] (Za rfl (Za rfl (Za rfl (Za rfl (Zd _))))) ?_
 refine Zh (hK6 _ _ ?_)
 refine Zz (Zb rfl) (fun h2 => ?_) (fun h2 => ?_)
 ·replace h2 : ((decide (cAt s p = 32) || decide (cAt s p = 9)) || decide (cAt s p = 13)) = true := h2
  have hN : nextF s p ts cs = (p + 1, ts, cs, 0) := by unfold nextF; rw [h1, h2]; rfl
  refine Zf [3, 3, 3, 0, 3, 3, 3, 2] ?_
  refine Zc rfl (fun _ => Zi (Zb rfl)) ?_
  refine Zc rfl (fun _ => Xl (Zb rfl)) ?_
  refine Zc rfl (fun _ => Zm Yx (Zb rfl)) ?_
  refine Ya rfl (Zt Yy (Zb rfl) (fun _ => by first | exact (hs.grow g).B.at_ rfl)) ?_
  refine Zc rfl (fun _ => Xq (Zb rfl) Zl (fun _ => by omega)) ?_
  refine Zc rfl (fun _ => Xl (Zb rfl)) ?_
  refine Zc rfl (fun _ => Zm Yx (Zb rfl)) ?_
  refine Us rfl Yxa (Zb rfl) (Zb rfl) rfl rfl (hs.grow g).B rfl rfl ?_
  intro w63 hg63 hz63 hB
  have hb' := Vya (Below.refl _ _) g hg63 hs.base_le hs.hb
  have hs' := ((hs.grow g).setp (q := p + 1) hg63 hB).scn (by omega) (by omega) (by omega) k4
  refine Zj [(2, _, _)] (Za rfl (Zd _)) ?_
  refine Zh (hK3 _ _ ?_)
  refine Zg fun K7 hK7 => ?_
  refine Zf [3] ?_
  refine Zc rfl (fun _ => Ze Zl) ?_
  refine Zh (hK7 _ _ ?_)
  refine Yf (Yj rfl rfl ?_)
  rw [hN]; exact ⟨rfl, hs', hb'⟩
 replace h2 : ((decide (cAt s p = 32) || decide (cAt s p = 9)) || decide (cAt s p = 13)) = false := h2
 refine Zg fun K8 hK8 => ?_
 refine Vm [3, 3, 3, 0, 3, 3, 3, 0, 3, 1, 3] [true, true, true, true, true, true, true, true, true, true, true] [0, 1, 3, 7, 0, 16, 48, 112, 255, 511, 1023] mix (by kernel_rfl) ?_
 have g := g.trans (G.drew _)
 refine Zc rfl (fun _ => Zi (Zb rfl)) ?_
 refine Zc rfl (fun _ => Xl (Zb rfl)) ?_
 refine Zc rfl (fun _ => Zm Wf (Zb rfl)) ?_
 refine Ya rfl (Zt Yt (Zb rfl) (fun _ => by first | exact (hs.grow g).B.at_ rfl)) ?_
 refine Zc rfl (fun _ => Zi (Zb rfl)) ?_
 refine Zc rfl (fun _ => Xl (Zb rfl)) ?_
 refine Zc rfl (fun _ => Zm Yx (Zb rfl)) ?_
 refine Ya rfl (Zt Yy (Zb rfl) (fun _ => by first | exact (hs.grow g).B.at_ rfl)) ?_
 refine Zc rfl (fun _ => Qpa Yv (Zb rfl) (Zb rfl) (fun _ => by omega)) ?_
 refine Xe rfl (Zu Yka Yl (Zk (Zb rfl) (Zk Zl (Zn))) rfl) (Yfb _ _ _) (fun w74 g74 => ?_)
 have g := g.trans (g74)
 refine Zc rfl (fun _ => Ze (Zb rfl)) ?_
 refine Zj [(0, _, _), (2, _, _), (3, _, _), (64, _, _)] (Za rfl (Za rfl (Za rfl (Za rfl (Zd _))))) ?_
 refine Zh (hK8 _ _ ?_)
 refine Zz (Zb rfl) (fun h3 => ?_) (fun h3 => ?_)
 ·replace h3 : preB [47, 47] (s.drop p) = true := h3
  have hn := Zka (q := isNotLf) hp (by rw [isNotLf, h1]; rfl)
  have hf := Jm isNotLf hp
  have hN : nextF s p ts cs = (p + runN isNotLf (s.drop p), ts, cs ++ [⟨5, (s.drop p).take (runN isNotLf (s.drop p)), p⟩], 0) := by unfold nextF; rw [h1, h2, h3]; rfl
  have e : ((p : Int) + (runN isNotLf (s.drop p) : Nat)).toNat - (p : Int).toNat = runN isNotLf (s.drop p) := by omega
  refine Zg fun K9 hK9 => ?_
  refine Zf [3, 1, 3] ?_
  refine Zc rfl (fun _ => Zi (Zb rfl)) ?_
  refine Xe rfl (Zu Ji Yl (Zk (Zb rfl) (Zk Yl (Zn))) rfl) (run_ok base b s p ts cs _ ((hs.grow g).scn k1 k2 k3 k4) _ isNotLf Uta notlf_ok) (fun w76 g76 => ?_)
  have g := g.trans (g76)
  refine Zc rfl (fun _ => Ze (Zb rfl)) ?_
  refine Zj [(0, _, _), (2, _, _), (4, _, _)] (Za rfl (Za rfl (Za rfl (Zd _)))) ?_
  refine Zh (hK9 _ _ ?_)
  refine Zg fun K10 hK10 => ?_
  refine Vm [3, 3, 3, 3, 0, 3, 3, 3, 0, 3, 3, 3, 0, 3, 3, 3, 0, 3, 3, 3, 3, 3, 3, 0, 3, 1, 2, 3, 3, 2] [true, true, true, true, true, true, true, true, true, true, true, true, true, true, true, true, true, true, true, true, true, true, true, true, true, true, true, true, true, true] [0, 0, 2, 6, 14, 0, 32, 96, 224, 0, 512, 1536, 3584, 0, 8192, 24576, 57344, 0, 253952, 524256, 0, 1048576, 3145728, 7340032, 16777184, 33554400, 67108862, 134217727, 268435455, 536870911] mix (by kernel_rfl) ?_
  have g := g.trans (G.drew _)
  refine Zc rfl (fun _ => Zi (Zb rfl)) ?_
  refine Zc rfl (fun _ => Zi (Zb rfl)) ?_
  refine Zc rfl (fun _ => Xl (Zb rfl)) ?_
  refine Zc rfl (fun _ => Zm Wpa (Zb rfl)) ?_
  refine Ya rfl (Zt Uk (Zb rfl) (fun _ => by first | exact (hs.grow g).B.at_ rfl)) ?_
  refine Zc rfl (fun _ => Zi (Zb rfl)) ?_
  refine Zc rfl (fun _ => Xl (Zb rfl)) ?_
  refine Zc rfl (fun _ => Zm Wf (Zb rfl)) ?_
  refine Ya rfl (Zt Yt (Zb rfl) (fun _ => by first | exact (hs.grow g).B.at_ rfl)) ?_
  refine Zc rfl (fun _ => Zi (Zb rfl)) ?_
  refine Zc rfl (fun _ => Xl (Zb rfl)) ?_
  refine Zc rfl (fun _ => Zm Yx (Zb rfl)) ?_
  refine Ya rfl (Zt Yy (Zb rfl) (fun _ => by first | exact (hs.grow g).B.at_ rfl)) ?_
  refine Zc rfl (fun _ => Zi (Zb rfl)) ?_
  refine Zc rfl (fun _ => Xl (Zb rfl)) ?_
  refine Zc rfl (fun _ => Zm Yx (Zb rfl)) ?_
  refine Ya rfl (Zt Yy (Zb rfl) (fun _ => by first | exact (hs.grow g).B.at_ rfl)) ?_
  refine Zc rfl (fun _ => Zi (Zb rfl)) ?_
  refine Zc rfl (fun _ => Xq (Zb rfl) (Zb rfl) (fun _ => by omega)) ?_
  refine Zc rfl (fun _ => Qoa Yv (Zb rfl) (Zb rfl) (Zb rfl) (fun _ => by omega)) ?_
  refine Zc rfl (fun _ => Zi (Zb rfl)) ?_
  refine Zc rfl (fun _ => Xl (Zb rfl)) ?_
  refine Zc rfl (fun _ => Zm Yx (Zb rfl)) ?_
  refine Ya rfl (Zt Yy (Zb rfl) (fun _ => by first | exact (hs.grow g).B.at_ rfl)) ?_
  refine Zc rfl (fun _ => We [_, _, _] Xn rfl Vw (Zp Zl (Zp (Zb rfl) (Zp (Zb rfl) (Yc)))) rfl) ?_
  refine Zx [_, _, _] rfl Xk Xn (Zp (Zb rfl) (Yc)) rfl rfl ?_
  intro b102 w102 N102
  have l102 := N102.ge g
  have g := g.trans (N102.g)
  have B102 := N102.blk
  have hb := Ug g hs.base_le
  have hs := hs.grow g
  have hz0 := hs.base_le
  refine Jt rfl Xk Xn rfl (by decide) (Zb rfl) hs.hc (Zb rfl) rfl N102.blk.row rfl (by simp only [maxLen]; omega) (by omega) (by omega) ?_
  intro ca' cc' w103 hc' hg103 hat
  have hB := hs.B.keep hg103 (Ne.symm hs.n2)
  have hz := hg103.size
  refine Zc rfl (fun _ => Xl (Zb rfl)) ?_
  refine Zc rfl (fun _ => Zm Wpa (Zb rfl)) ?_
  refine Us rfl Yya (Zb rfl) (Zb rfl) rfl rfl hB rfl rfl ?_
  intro w105 hg105 hz105 hB
  have hb := Vd (Vd hb hg103 hs.base_le (fun k hk => (hs.hc.lt k hk).1)) hg105 (by have := hs.base_le; omega) (fun k hk => by injection hk with hk; have := hs.hb; omega)
  rw [e] at hc'
  have hs := hs.putC (t := ⟨5, (s.drop p).take (runN isNotLf (s.drop p)), p⟩) hc' hg103 hat hg105 hB
  have g := G.refl w105
  refine Zj [(0, _, _), (2, _, _), (4, _, _)] (Za rfl (Za rfl (Za rfl (Zd _)))) ?_
  refine Zh (hK10 _ _ ?_)
  refine Zf [3, 3, 3, 0, 3, 3, 3, 3, 2] ?_
  refine Zc rfl (fun _ => Zi (Zb rfl)) ?_
  refine Zc rfl (fun _ => Xl (Zb rfl)) ?_
  refine Zc rfl (fun _ => Zm Yx (Zb rfl)) ?_
  refine Ya rfl (Zt Yy (Zb rfl) (fun _ => by first | exact (hs.grow g).B.at_ rfl | exact B102.at_ rfl | exact B102.row)) ?_
  refine Zc rfl (fun _ => Zi (Zb rfl)) ?_
  refine Zc rfl (fun _ => Xq (Zb rfl) (Zb rfl) (fun _ => by omega)) ?_
  refine Zc rfl (fun _ => Xl (Zb rfl)) ?_
  refine Zc rfl (fun _ => Zm Yx (Zb rfl)) ?_
  refine Us rfl Yxa (Zb rfl) (Zb rfl) rfl rfl (hs.grow g).B rfl rfl ?_
  intro w113 hg113 hz113 hB
  have hb' := Vya hb g hg113 hs.base_le hs.hb
  have hs' := ((hs.grow g).setp (q := p + runN isNotLf (s.drop p)) hg113 hB).scn (by omega) (by rw [List.length_append]; show cs.length + 1 ≤ _; omega) hf k4
  refine Zj [(2, _, _)] (Za rfl (Zd _)) ?_
  refine Zh (hK3 _ _ ?_)
  refine Zg fun K11 hK11 => ?_
  refine Zf [3] ?_
  refine Zc rfl (fun _ => Ze Zl) ?_
  refine Zh (hK11 _ _ ?_)
  refine Yf (Yj rfl rfl ?_)
  rw [hN]; exact ⟨rfl, hs', hb'⟩
 replace h3 : preB [47, 47] (s.drop p) = false := h3
 refine Zg fun K12 hK12 => ?_
 refine Zf [3, 1, 3] ?_
 refine Zc rfl (fun _ => Zi (Zb rfl)) ?_
 refine Xe rfl (Zu Xta Yl (Zk (Zb rfl) (Zn)) rfl) (Vhb _ _) (fun w116 g116 => ?_)
 have g := g.trans (g116)
 refine Zc rfl (fun _ => Ze (Zb rfl)) ?_
 refine Zj [(0, _, _), (2, _, _), (3, _, _), (114, _, _)] (Za rfl (Za rfl (Za rfl (Za rfl (Zd _))))) ?_
 refine Zh (hK12 _ _ ?_)
 refine Zz (Zb rfl) (fun h4 => ?_) (fun h4 => ?_)
 ·replace h4 : letterB (cAt s p) = true := h4
  have hn := Zka (q := isAlnum) hp (by rw [isAlnum, h4]; rfl)
  have hf := Jm isAlnum hp
  have e : ((p : Int) + (runN isAlnum (s.drop p) : Nat)).toNat - (p : Int).toNat = runN isAlnum (s.drop p) := by omega
  refine Zg fun K13 hK13 => ?_
  refine Zf [3, 1, 3] ?_
  refine Zc rfl (fun _ => Zi (Zb rfl)) ?_
  refine Xe rfl (Zu Ji Yl (Zk (Zb rfl) (Zk Yl (Zn))) rfl) (run_ok base b s p ts cs _ ((hs.grow g).scn k1 k2 k3 k4) _ isAlnum Uva alnum_ok) (fun w118 g118 => ?_)
  have g := g.trans (g118)
  refine Zc rfl (fun _ => Ze (Zb rfl)) ?_
  refine Zj [(0, _, _), (2, _, _), (5, _, _)] (Za rfl (Za rfl (Za rfl (Zd _)))) ?_
  refine Zh (hK13 _ _ ?_)
  refine Zg fun K14 hK14 => ?_
  refine Zg fun K15 hK15 => ?_
  refine Zf [3, 3] ?_
  refine Zc rfl (fun _ => Zi (Zb rfl)) ?_
  refine Zc rfl (fun _ => Js (Zb rfl) Zl) ?_
  refine Zj [(0, _, _), (2, _, _), (5, _, _), (120, _, _)] (Za rfl (Za rfl (Za rfl (Za rfl (Zd _))))) ?_
  refine Zh (hK15 _ _ ?_)
  refine Zz (Zb rfl) (fun h5 => ?_) (fun h5 => ?_)
  ·have hN : nextF s p ts cs = (p, ts, cs, 3) := by unfold nextF; rw [h1, h2, h3, h4, h5]; rfl
   have hs' := (hs.grow g).scn k1 k2 k3 k4
   have hb' := Ug g hs.base_le
   refine Zg fun K16 hK16 => ?_
   refine Zf [3] ?_
   refine Zc rfl (fun _ => Ze Zl) ?_
   refine Zj [(0, _, _), (2, _, _), (5, _, _)] (Za rfl (Za rfl (Za rfl (Zd _)))) ?_
   refine Zh (hK16 _ _ ?_)
   refine Yf (Yj rfl rfl ?_)
   rw [hN]; exact ⟨rfl, hs', hb'⟩
  (try simp only [bsimp] at h5)
  refine Yq (hK14 _ _ ?_)
  refine Yi [(0, _, _), (2, _, _), (5, _, _)] (Za rfl (Za rfl (Za rfl (Zd _)))) ?_
  refine Zg fun K17 hK17 => ?_
  refine Zf [3] ?_
  refine Zc rfl (fun _ => Ze Zl) ?_
  refine Zh (hK17 _ _ ?_)
  refine Zg fun K18 hK18 => ?_
  refine Zg fun K19 hK19 => ?_
  refine Vm [3, 3, 3, 0, 3, 3, 3, 0, 3, 3, 3, 0, 3, 3, 3, 1] [true, true, true, true, true, true, true, true, true, true, true, true, true, true, true, true] [0, 1, 3, 7, 0, 16, 48, 112, 0, 256, 768, 1792, 0, 7936, 16383, 32767] mix (by kernel_rfl) ?_
  have g := g.trans (G.drew _)
  refine Zc rfl (fun _ => Zi (Zb rfl)) ?_
  refine Zc rfl (fun _ => Xl (Zb rfl)) ?_
  refine Zc rfl (fun _ => Zm Wf (Zb rfl)) ?_
  refine Ya rfl (Zt Yt (Zb rfl) (fun _ => by first | exact (hs.grow g).B.at_ rfl)) ?_
  refine Zc rfl (fun _ => Zi (Zb rfl)) ?_
  refine Zc rfl (fun _ => Xl (Zb rfl)) ?_
  refine Zc rfl (fun _ => Zm Yx (Zb rfl)) ?_
  refine Ya rfl (Zt Yy (Zb rfl) (fun _ => by first | exact (hs.grow g).B.at_ rfl)) ?_
  refine Zc rfl (fun _ => Zi (Zb rfl)) ?_
  refine Zc rfl (fun _ => Xl (Zb rfl)) ?_
  refine Zc rfl (fun _ => Zm Yx (Zb rfl)) ?_
  refine Ya rfl (Zt Yy (Zb rfl) (fun _ => by first | exact (hs.grow g).B.at_ rfl)) ?_
  refine Zc rfl (fun _ => Zi (Zb rfl)) ?_
  refine Zc rfl (fun _ => Xq (Zb rfl) (Zb rfl) (fun _ => by omega)) ?_
  refine Zc rfl (fun _ => Qoa Yv (Zb rfl) (Zb rfl) (Zb rfl) (fun _ => by omega)) ?_
  refine Xe rfl (Zu Qtb Yl (Zk (Zb rfl) (Zn)) rfl) (keyword_ok _ _) (fun w136 g136 => ?_)
  have g := g.trans (g136)
  refine Zj [(0, _, _), (2, _, _), (5, _, _), (6, _, _), (136, _, _)] (Za rfl (Za rfl (Za rfl (Za rfl (Za rfl (Zd _)))))) ?_
  refine Zh (hK19 _ _ ?_)
  refine Zz (Zb rfl) (fun h6 => ?_) (fun h6 => ?_)
  ·rw [e] at h6
   replace h6 : inB kws ((s.drop p).take (runN isAlnum (s.drop p))) = true := h6
   have hN : nextF s p ts cs = (p + runN isAlnum (s.drop p), ts ++ [⟨3, (s.drop p).take (runN isAlnum (s.drop p)), p⟩], cs, 0) := by unfold nextF; rw [h1, h2, h3, h4, h5, wordK, h6]; rfl
   refine Zf [3] ?_
   refine Zc rfl (fun _ => Ze Zl) ?_
   refine Zj [(0, _, _), (2, _, _), (5, _, _), (6, _, _)] (Za rfl (Za rfl (Za rfl (Za rfl (Zd _))))) ?_
   refine Zh (hK18 _ _ ?_)
   refine Zf [3, 3, 3, 2] ?_
   refine Zc rfl (fun _ => Zi (Zb rfl)) ?_
   refine Zc rfl (fun _ => Zi (Zb rfl)) ?_
   refine Zc rfl (fun _ => Zi (Zb rfl)) ?_
   refine Yd rfl (Zu Uw Yl (Zk (Zb rfl) (Zk (Zb rfl) (Zk (Zb rfl) (Zn)))) rfl) (put_ok base b s p ts cs _ _ _ ((hs.grow g).scn k1 k2 k3 k4) hn hf) ?_
   rintro v140 w140 ⟨rfl, hs', hb'⟩
   refine ⟨fun h => absurd h (by decide), ?_⟩
   have hb' := (Ug g hs.base_le).trans hb'
   refine Zj [(2, _, _)] (Za rfl (Zd _)) ?_
   refine Zh (hK3 _ _ ?_)
   refine Zg fun K20 hK20 => ?_
   refine Zf [3] ?_
   refine Zc rfl (fun _ => Ze Zl) ?_
   refine Zh (hK20 _ _ ?_)
   refine Yf (Yj rfl rfl ?_)
   rw [hN]; exact ⟨rfl, hs', hb'⟩
  rw [e] at h6
  replace h6 : inB kws ((s.drop p).take (runN isAlnum (s.drop p))) = false := h6
  have hN : nextF s p ts cs = (p + runN isAlnum (s.drop p), ts ++ [⟨1, (s.drop p).take (runN isAlnum (s.drop p)), p⟩], cs, 0) := by unfold nextF; rw [h1, h2, h3, h4, h5, wordK, h6]; rfl
  refine Yq (hK18 _ _ ?_)
  refine Yi [(0, _, _), (2, _, _), (5, _, _), (6, _, _)] (Za rfl (Za rfl (Za rfl (Za rfl (Zd _))))) ?_
  refine Zf [3, 3, 3, 2] ?_
  refine Zc rfl (fun _ => Zi (Zb rfl)) ?_
  refine Zc rfl (fun _ => Zi (Zb rfl)) ?_
  refine Zc rfl (fun _ => Zi (Zb rfl)) ?_
  refine Yd rfl (Zu Uw Yl (Zk (Zb rfl) (Zk (Zb rfl) (Zk (Zb rfl) (Zn)))) rfl) (put_ok base b s p ts cs _ _ _ ((hs.grow g).scn k1 k2 k3 k4) hn hf) ?_
  rintro v140 w140 ⟨rfl, hs', hb'⟩
  refine ⟨fun h => absurd h (by decide), ?_⟩
  have hb' := (Ug g hs.base_le).trans hb'
  refine Zj [(2, _, _)] (Za rfl (Zd _)) ?_
  refine Zh (hK3 _ _ ?_)
  refine Zg fun K21 hK21 => ?_
  refine Zf [3] ?_
  refine Zc rfl (fun _ => Ze Zl) ?_
  refine Zh (hK21 _ _ ?_)
  refine Yf (Yj rfl rfl ?_)
  rw [hN]; exact ⟨rfl, hs', hb'⟩
 replace h4 : letterB (cAt s p) = false := h4
 refine Zg fun K22 hK22 => ?_
 refine Zf [3, 1, 3] ?_
 refine Zc rfl (fun _ => Zi (Zb rfl)) ?_
 refine Xe rfl (Zu Via Yl (Zk (Zb rfl) (Zn)) rfl) (Zwc _ _) (fun w143 g143 => ?_)
 have g := g.trans (g143)
 refine Zc rfl (fun _ => Ze (Zb rfl)) ?_
 refine Zj [(0, _, _), (2, _, _), (3, _, _), (141, _, _)] (Za rfl (Za rfl (Za rfl (Za rfl (Zd _))))) ?_
 refine Zh (hK22 _ _ ?_)
 refine Zz (Zb rfl) (fun h7 => ?_) (fun h7 => ?_)
 ·replace h7 : digitB (cAt s p) = true := h7
  have hn := Zka (q := digitB) hp h7
  have hf := Jm digitB hp
  have e : ((p : Int) + (runN digitB (s.drop p) : Nat)).toNat - (p : Int).toNat = runN digitB (s.drop p) := by omega
  refine Zg fun K23 hK23 => ?_
  refine Zf [3, 1, 3] ?_
  refine Zc rfl (fun _ => Zi (Zb rfl)) ?_
  refine Xe rfl (Zu Ji Yl (Zk (Zb rfl) (Zk Yl (Zn))) rfl) (run_ok base b s p ts cs _ ((hs.grow g).scn k1 k2 k3 k4) _ digitB Via Zwc) (fun w145 g145 => ?_)
  have g := g.trans (g145)
  refine Zc rfl (fun _ => Ze (Zb rfl)) ?_
  refine Zj [(0, _, _), (2, _, _), (3, _, _), (7, _, _)] (Za rfl (Za rfl (Za rfl (Za rfl (Zd _))))) ?_
  refine Zh (hK23 _ _ ?_)
  refine Zg fun K24 hK24 => ?_
  refine Zg fun K25 hK25 => ?_
  refine Vm [3, 3, 3, 3, 3, 3, 3, 3, 3, 3, 0, 3, 3, 3, 3, 3, 0, 3, 3, 3, 3, 3, 3, 0, 3, 3, 3, 0, 3, 3, 3, 1, 3, 3] [true, true, true, true, true, true, true, true, true, true, true, true, true, true, true, true, true, true, true, true, true, true, true, true, true, true, true, true, true, true, true, true, true, true] [0, 1, 3, 7, 15, 31, 63, 127, 255, 511, 1023, 127, 4095, 127, 8319, 24703, 57471, 123007, 262143, 524287, 1048575, 2097151, 4194303, 8388607, 1048575, 17825791, 51380223, 118489087, 1048575, 521142271, 1073741823, 2147483647, 4294967295, 8589934591] mix (by kernel_rfl) ?_
  have g := g.trans (G.drew _)
  refine Zc rfl (fun _ => Zi (Zb rfl)) ?_
  refine Zc rfl (fun _ => Yg (Zb rfl) Zl) ?_
  refine Zc rfl (fun _ => Zi (Zb rfl)) ?_
  refine Zs rfl rfl rfl (fun _ => Zi (Zb rfl)) ?_
  refine Zs rfl rfl rfl (fun _ => Js (Zy rfl id) Zl) ?_
  refine Zc rfl (fun _ => Ye (Zb rfl) (Zy rfl id)) ?_
  refine Zc rfl (fun _ => Zi (Zb rfl)) ?_
  refine Zs rfl rfl rfl (fun _ => Zi (Zb rfl)) ?_
  refine Zs rfl rfl rfl (fun _ => Xl (Zy rfl id)) ?_
  refine Zs rfl rfl rfl (fun _ => Zm Yx (Zy rfl id)) ?_
  refine Yr rfl rfl rfl (Zt Yy (Zy rfl id) (fun _ => by first | exact (hs.grow g).B.at_ rfl)) ?_
  refine Zs rfl rfl rfl (fun _ => Zi (Zb rfl)) ?_
  refine Zs rfl rfl rfl (fun _ => Xq (Zy rfl id) (Zy rfl id) (fun _ => by omega)) ?_
  refine Zs rfl rfl rfl (fun _ => Zi (Zb rfl)) ?_
  refine Zs rfl rfl rfl (fun _ => Xl (Zy rfl id)) ?_
  refine Zs rfl rfl rfl (fun _ => Zm Wf (Zy rfl id)) ?_
  refine Yr rfl rfl rfl (Zt Yt (Zy rfl id) (fun _ => by first | exact (hs.grow g).B.at_ rfl)) ?_
  refine Zs rfl rfl rfl (fun _ => Wz Yv (Zy rfl id)) ?_
  refine Zs rfl rfl rfl (fun _ => Vh (Zy rfl id) (Zy rfl id)) ?_
  refine Zs rfl rfl rfl (fun _ => Zi (Zy rfl id)) ?_
  refine Zs rfl rfl rfl (fun _ => Zi (Zb rfl)) ?_
  refine Zs rfl rfl rfl (fun _ => Xl (Zy rfl id)) ?_
  refine Zs rfl rfl rfl (fun _ => Zm Wf (Zy rfl id)) ?_
  refine Yr rfl rfl rfl (Zt Yt (Zy rfl id) (fun _ => by first | exact (hs.grow g).B.at_ rfl)) ?_
  refine Zs rfl rfl rfl (fun _ => Zi (Zb rfl)) ?_
  refine Zs rfl rfl rfl (fun _ => Xl (Zy rfl id)) ?_
  refine Zs rfl rfl rfl (fun _ => Zm Yx (Zy rfl id)) ?_
  refine Yr rfl rfl rfl (Zt Yy (Zy rfl id) (fun _ => by first | exact (hs.grow g).B.at_ rfl)) ?_
  refine Zs rfl rfl rfl (fun _ => Zi (Zb rfl)) ?_
  refine Zs rfl rfl rfl (fun _ => Xq (Zy rfl id) (Zy rfl id) (fun _ => by omega)) ?_
  refine Zs rfl rfl rfl (fun _ => Uf Yv (Zy rfl id) (Zy rfl id) (fun hc => by have := of_decide_eq_true hc.2; omega)) ?_
  refine Xb rfl rfl rfl (fun _ => (Zu Xta Yl (Zk (Zy rfl id) (Zn)) rfl)) (fun hc => Vhb _ _) (fun w177 g177 => ?_)
  have g := g.trans (g177)
  refine Zs rfl rfl rfl (fun _ => Ye (Zy rfl id) (Zy rfl id)) ?_
  refine Zc rfl (fun _ => Yz (Zb rfl) (Zy rfl id)) ?_
  refine Zj [(0, _, _), (2, _, _), (7, _, _), (179, _, _)] (Za rfl (Za rfl (Za rfl (Za rfl (Zd _))))) ?_
  refine Zh (hK25 _ _ ?_)
  refine Zz (Zb rfl) (fun h8 => ?_) (fun h8 => ?_)
  ·replace h8 : badD s p (runN digitB (s.drop p)) = true := h8
   have hN : nextF s p ts cs = (p, ts, cs, 4) := by unfold nextF; rw [h1, h2, h3, h4, h7, h8]; rfl
   have hs' := (hs.grow g).scn k1 k2 k3 k4
   have hb' := Ug g hs.base_le
   refine Zg fun K26 hK26 => ?_
   refine Zf [3] ?_
   refine Zc rfl (fun _ => Ze Zl) ?_
   refine Zj [(0, _, _), (2, _, _), (7, _, _)] (Za rfl (Za rfl (Za rfl (Zd _)))) ?_
   refine Zh (hK26 _ _ ?_)
   refine Yf (Yj rfl rfl ?_)
   rw [hN]; exact ⟨rfl, hs', hb'⟩
  replace h8 : badD s p (runN digitB (s.drop p)) = false := h8
  obtain ⟨ev, he1, he2⟩ := hL.err
  have hdl : ((s.drop p).take (runN digitB (s.drop p))).length = runN digitB (s.drop p) := by rw [List.length_take, List.length_drop]; omega
  refine Yq (hK24 _ _ ?_)
  refine Yi [(0, _, _), (2, _, _), (7, _, _)] (Za rfl (Za rfl (Za rfl (Zd _)))) ?_
  refine Zg fun K27 hK27 => ?_
  refine Zg fun K28 hK28 => ?_
  refine Vm [3, 3, 3, 0, 3, 3, 3, 0, 3, 3, 3, 0, 3, 3, 3, 1, 3, 3, 3, 3, 3] [true, true, true, true, true, true, true, true, true, true, true, true, true, true, true, true, true, true, true, true, true] [0, 1, 3, 7, 0, 16, 48, 112, 0, 256, 768, 1792, 0, 7936, 16383, 32767, 65535, 131071, 131071, 262143, 1048575] mix (by kernel_rfl) ?_
  have g := g.trans (G.drew _)
  refine Zc rfl (fun _ => Zi (Zb rfl)) ?_
  refine Zc rfl (fun _ => Xl (Zb rfl)) ?_
  refine Zc rfl (fun _ => Zm Wf (Zb rfl)) ?_
  refine Ya rfl (Zt Yt (Zb rfl) (fun _ => by first | exact (hs.grow g).B.at_ rfl)) ?_
  refine Zc rfl (fun _ => Zi (Zb rfl)) ?_
  refine Zc rfl (fun _ => Xl (Zb rfl)) ?_
  refine Zc rfl (fun _ => Zm Yx (Zb rfl)) ?_
  refine Ya rfl (Zt Yy (Zb rfl) (fun _ => by first | exact (hs.grow g).B.at_ rfl)) ?_
  refine Zc rfl (fun _ => Zi (Zb rfl)) ?_
  refine Zc rfl (fun _ => Xl (Zb rfl)) ?_
  refine Zc rfl (fun _ => Zm Yx (Zb rfl)) ?_
  refine Ya rfl (Zt Yy (Zb rfl) (fun _ => by first | exact (hs.grow g).B.at_ rfl)) ?_
  refine Zc rfl (fun _ => Zi (Zb rfl)) ?_
  refine Zc rfl (fun _ => Xq (Zb rfl) (Zb rfl) (fun _ => by omega)) ?_
  refine Zc rfl (fun _ => Qoa Yv (Zb rfl) (Zb rfl) (Zb rfl) (fun _ => by omega)) ?_
  refine Yd rfl (Zu Zvb Yl (Zk (Zb rfl) (Zk Zl (Zk Zl (Zn)))) rfl) (parse_ok _ (by rw [e]; exact Jka s p) (by rw [e]; intro h0; have h0 := congrArg List.length h0; rw [show (List.take (runN digitB (s.drop p)) (List.drop (p : Int).toNat s)).length = runN digitB (s.drop p) from hdl] at h0; simp at h0; omega) (by rw [e]; show ((s.drop p).take (runN digitB (s.drop p))).length ≤ 20000; omega) _ ev (Vla g he1) he2) ?_
  rintro v196 w196 ⟨⟨x, er, rfl, her, hnil⟩, g196⟩
  refine ⟨fun _ => g196, ?_⟩
  have g := g.trans g196
  replace hnil : nilV er = decide (valN 0 ((s.drop p).take (runN digitB (s.drop p))) < 9223372036854775808) := by rw [e] at hnil; exact hnil
  refine Zc rfl (fun _ => Zi (Zb rfl)) ?_
  refine Zc rfl (fun _ => Wu (Zb rfl) rfl) ?_
  refine Zc rfl (fun _ => Wu (Zb rfl) rfl) ?_
  refine Zc rfl (fun _ => Ze (Zb rfl)) ?_
  refine Zc rfl (fun _ => Ze (Zb rfl)) ?_
  refine Zj [(0, _, _), (2, _, _), (7, _, _), (9, _, _)] (Za rfl (Za rfl (Za rfl (Za rfl (Zd _))))) ?_
  refine Zh (hK28 _ _ ?_)
  refine Zg fun K29 hK29 => ?_
  refine Zf [3, 3] ?_
  refine Zc rfl (fun _ => Zi (Zb rfl)) ?_
  refine Zc rfl (fun _ => rd_ine if_error (Zb rfl) her) ?_
  refine Zj [(0, _, _), (2, _, _), (7, _, _), (200, _, _)] (Za rfl (Za rfl (Za rfl (Za rfl (Zd _))))) ?_
  refine Zh (hK29 _ _ ?_)
  refine Zz (Zb rfl) (fun h9 => ?_) (fun h9 => ?_)
  ·have h9 : decide (valN 0 ((s.drop p).take (runN digitB (s.drop p))) < 9223372036854775808) = false := by replace h9 : (!nilV er) = true := h9; rw [hnil] at h9; simpa using h9
   have hN : nextF s p ts cs = (p, ts, cs, 4) := by unfold nextF; rw [h1, h2, h3, h4, h7, h8, h9]; rfl
   have hs' := (hs.grow g).scn k1 k2 k3 k4
   have hb' := Ug g hs.base_le
   refine Zg fun K30 hK30 => ?_
   refine Zf [3] ?_
   refine Zc rfl (fun _ => Ze Zl) ?_
   refine Zj [(0, _, _), (2, _, _), (7, _, _)] (Za rfl (Za rfl (Za rfl (Zd _)))) ?_
   refine Zh (hK30 _ _ ?_)
   refine Yf (Yj rfl rfl ?_)
   rw [hN]; exact ⟨rfl, hs', hb'⟩
  have h9 : decide (valN 0 ((s.drop p).take (runN digitB (s.drop p))) < 9223372036854775808) = true := by replace h9 : (!nilV er) = false := h9; rw [hnil] at h9; simpa using h9
  have hN : nextF s p ts cs = (p + runN digitB (s.drop p), ts ++ [⟨2, (s.drop p).take (runN digitB (s.drop p)), p⟩], cs, 0) := by unfold nextF; rw [h1, h2, h3, h4, h7, h8, h9]; rfl
  refine Yq (hK27 _ _ ?_)
  refine Yi [(0, _, _), (2, _, _), (7, _, _)] (Za rfl (Za rfl (Za rfl (Zd _)))) ?_
  refine Zf [3, 3, 2] ?_
  refine Zc rfl (fun _ => Zi (Zb rfl)) ?_
  refine Zc rfl (fun _ => Zi (Zb rfl)) ?_
  refine Yd rfl (Zu Uw Yl (Zk (Zb rfl) (Zk Zl (Zk (Zb rfl) (Zn)))) rfl) (put_ok base b s p ts cs _ _ _ ((hs.grow g).scn k1 k2 k3 k4) hn hf) ?_
  rintro v203 w203 ⟨rfl, hs', hb'⟩
  refine ⟨fun h => absurd h (by decide), ?_⟩
  have hb' := (Ug g hs.base_le).trans hb'
  refine Zj [(2, _, _)] (Za rfl (Zd _)) ?_
  refine Zh (hK3 _ _ ?_)
  refine Zg fun K31 hK31 => ?_
  refine Zf [3] ?_
  refine Zc rfl (fun _ => Ze Zl) ?_
  refine Zh (hK31 _ _ ?_)
  refine Yf (Yj rfl rfl ?_)
  rw [hN]; exact ⟨rfl, hs', hb'⟩
 replace h7 : digitB (cAt s p) = false := h7
 refine Zg fun K32 hK32 => ?_
 refine Zg fun K33 hK33 => ?_
 refine Zf [0, 3] ?_
 refine Ya rfl (Yb agg_27_string ev_g rfl (fun _ => (hL.grow g).ops)) ?_
 refine Zc rfl (fun _ => Zi Zl) ?_
 refine Zj [(0, _, _), (2, _, _), (21, _, _), (22, _, _)] (Za rfl (Za rfl (Za rfl (Za rfl (Zd _))))) ?_
 refine Zh (hK33 _ _ ?_)
 refine Yp ?_
 refine Zba (fun (i : Nat) u => i ≤ 27 ∧ (∀ j < i, preB (opsL.getD j []) (s.drop p) = false) ∧ G w u) (fun i => [(0, True, .pointer (some ⟨b, 0, none⟩)), (21, True, .agg (opsL.map Str).toArray), (22, True, .int .i64 i)]) (fun i => 27 - i) 0 ⟨by omega, by intro j hj; omega, g⟩ (Za rfl (Za rfl (Za rfl (Zd _)))) ?_
 rintro i u ⟨hi, hpre, g⟩
 refine Zg fun K34 hK34 => ?_
 refine Zf [3] ?_
 refine Zc rfl (fun _ => Vh (Zb rfl) Zl) ?_
 refine Zh (hK34 _ _ ?_)
 refine Zg fun K35 hK35 => ?_
 refine Zz (Zb rfl) (fun h10 => ?_) (fun h10 => ?_)
 ·simp only [decide_eq_true_eq] at h10
  have hi27 : i < 27 := by omega
  refine Yq (hK35 _ _ ?_)
  refine Yi [(0, _, _), (21, _, _), (22, _, _)] (Za rfl (Za rfl (Za rfl (Zd _)))) ?_
  refine Zg fun K36 hK36 => ?_
  refine Yp ?_
  refine Zg fun K37 hK37 => ?_
  refine Zf [3, 3] ?_
  refine Zc rfl (fun _ => rd_aidx ar_27_string (Zb rfl) (Zb rfl) (fun _ => by omega) (fun _ => opsL_at hi27)) ?_
  refine Zc rfl (fun _ => Ze (Zb rfl)) ?_
  refine Zj [(0, _, _), (11, _, _), (21, _, _), (22, _, _)] (Za rfl (Za rfl (Za rfl (Za rfl (Zd _))))) ?_
  refine Zh (hK37 _ _ ?_)
  refine Zg fun K38 hK38 => ?_
  refine Vm [3, 3, 3, 0, 3, 3, 3, 0, 3, 3, 1] [true, true, true, true, true, true, true, true, true, true, true] [0, 1, 3, 7, 0, 16, 48, 112, 255, 0, 1023] mix (by kernel_rfl) ?_
  have g := g.trans (G.drew _)
  refine Zc rfl (fun _ => Zi (Zb rfl)) ?_
  refine Zc rfl (fun _ => Xl (Zb rfl)) ?_
  refine Zc rfl (fun _ => Zm Wf (Zb rfl)) ?_
  refine Ya rfl (Zt Yt (Zb rfl) (fun _ => by first | exact (hs.grow g).B.at_ rfl)) ?_
  refine Zc rfl (fun _ => Zi (Zb rfl)) ?_
  refine Zc rfl (fun _ => Xl (Zb rfl)) ?_
  refine Zc rfl (fun _ => Zm Yx (Zb rfl)) ?_
  refine Ya rfl (Zt Yy (Zb rfl) (fun _ => by first | exact (hs.grow g).B.at_ rfl)) ?_
  refine Zc rfl (fun _ => Qpa Yv (Zb rfl) (Zb rfl) (fun _ => by omega)) ?_
  refine Zc rfl (fun _ => Zi (Zb rfl)) ?_
  refine Xe rfl (Zu Yka Yl (Zk (Zb rfl) (Zk (Zb rfl) (Zn))) rfl) (Yfb _ _ _) (fun w35 g35 => ?_)
  have g := g.trans (g35)
  refine Zj [(0, _, _), (11, _, _), (21, _, _), (22, _, _), (35, _, _)] (Za rfl (Za rfl (Za rfl (Za rfl (Za rfl (Zd _)))))) ?_
  refine Zh (hK38 _ _ ?_)
  refine Zz (Zb rfl) (fun h11 => ?_) (fun h11 => ?_)
  ·replace h11 : preB (opsL.getD i []) (s.drop p) = true := h11
   have h0 := opLen_some hi27 hpre h11
   have hn := opsL_pos i hi27
   have hf : p + (opsL.getD i []).length ≤ s.length := by have := (preB_len h11).1; rw [List.length_drop] at this; omega
   have hN : nextF s p ts cs = (p + (opsL.getD i []).length, ts ++ [⟨4, (s.drop p).take (opsL.getD i []).length, p⟩], cs, 0) := by
    unfold nextF; rw [h1, h2, h3, h4, h7, h0, show Nat.beq (opsL.getD i []).length 0 = false by rw [Bool.eq_false_iff]; intro h; have := Nat.eq_of_beq_eq_true h; omega]; rfl
   refine Zg fun K39 hK39 => ?_
   refine Zf [3, 3, 3, 2] ?_
   refine Zc rfl (fun _ => Zi (Zb rfl)) ?_
   refine Zc rfl (fun _ => Zi (Zb rfl)) ?_
   refine Zc rfl (fun _ => Wz Yv (Zb rfl)) ?_
   refine Yd rfl (Zu Uw Yl (Zk (Zb rfl) (Zk Zl (Zk (Zb rfl) (Zn)))) rfl) (put_ok base b s p ts cs _ _ _ ((hs.grow g).scn k1 k2 k3 k4) hn hf) ?_
   rintro v39 w39 ⟨rfl, hs', hb'⟩
   refine ⟨fun h => absurd h (by decide), ?_⟩
   have hb' := (Ug g hs.base_le).trans hb'
   refine Zj [(0, _, _), (21, _, _), (22, _, _)] (Za rfl (Za rfl (Za rfl (Zd _)))) ?_
   refine Zh (hK39 _ _ ?_)
   refine Zg fun K40 hK40 => ?_
   refine Zf [3] ?_
   refine Zc rfl (fun _ => Ze Zl) ?_
   refine Zh (hK40 _ _ ?_)
   refine Yi [(0, _, _), (2, _, _), (21, _, _), (22, _, _)] (Za rfl (Za rfl (Za rfl (Za rfl (Zd _))))) ?_
   refine Yf (Yj rfl rfl ?_)
   rw [hN]; exact ⟨rfl, hs', hb'⟩
  (try simp only [bsimp] at h11)
  refine Yq (hK36 _ _ ?_)
  refine Yi [(0, _, _), (21, _, _), (22, _, _)] (Za rfl (Za rfl (Za rfl (Zd _)))) ?_
  refine Zf [3, 3] ?_
  refine Zc rfl (fun _ => Xq (Zb rfl) Zl (fun _ => by omega)) ?_
  refine Zc rfl (fun _ => Zi (Zb rfl)) ?_
  refine Zj [(0, _, _), (21, _, _), (22, _, _)] (Za rfl (Za rfl (Za rfl (Zd _)))) ?_
  refine Zh (fun a ha => ?_)
  exact ⟨i + 1, ha, ⟨by omega, by
   intro j hj
   by_cases e : j = i
   ·rw [e]; exact h11
   ·exact hpre j (by omega), g⟩, by omega⟩
 simp only [decide_eq_false_iff_not] at h10
 have hi27 : i = 27 := by omega
 subst hi27
 have h0 := opLen_none hpre
 have hN : nextF s p ts cs = (p, ts, cs, 4) := by unfold nextF; rw [h1, h2, h3, h4, h7, h0]; rfl
 have hs' := (hs.grow g).scn k1 k2 k3 k4
 have hb' := Ug g hs.base_le
 refine Wa rfl (hK32 _ _ ?_)
 refine Yi [] (Zd _) ?_
 refine Zg fun K41 hK41 => ?_
 refine Zf [3] ?_
 refine Zc rfl (fun _ => Ze Zl) ?_
 refine Zh (hK41 _ _ ?_)
 refine Yf (Yj rfl rfl ?_)
 rw [hN]; exact ⟨rfl, hs', hb'⟩
end Go.Rk
namespace Go.Rk
open Go Go.RowKit
def goF (s : List UInt8) : Nat → Nat → List Tok → List Tok → Nat × List Tok × List Tok × Int
 | 0, p, ts, cs => (p, ts, cs, 0)
 | f + 1, p, ts, cs => bif decide (p < s.length) then bif decide ((nextF s p ts cs).2.2.2 = 0) then goF s f (nextF s p ts cs).1 (nextF s p ts cs).2.1 (nextF s p ts cs).2.2.1 else nextF s p ts cs else (p, ts, cs, 0)
def allF (s : List UInt8) : Nat × List Tok × List Tok × Int := bif decide ((20000 : Int) < s.length) then (0, [], [], 3) else goF s s.length 0 [] []
theorem Zyc {s : List UInt8} {p : Nat} {ts cs : List Tok} (h : p < s.length) (he : (nextF s p ts cs).2.2.2 = 0) : p < (nextF s p ts cs).1 := by
 unfold nextF at he ⊢
 cases h1 : decide (cAt s p = 10)
 ·cases h2 : ((decide (cAt s p = 32) || decide (cAt s p = 9)) || decide (cAt s p = 13))
  ·cases h3 : preB [47, 47] (s.drop p)
   ·cases h4 : letterB (cAt s p)
    ·cases h7 : digitB (cAt s p)
     ·cases h8 : Nat.beq (Zja (s.drop p)) 0
      ·simp only [cond_true, cond_false]
       have : Zja (s.drop p) ≠ 0 := by intro h0; rw [h0] at h8; cases h8
       omega
      ·rw [h1, h2, h3, h4, h7, h8] at he; simp at he
     ·have := Zka (q := digitB) h h7
      rw [h1, h2, h3, h4, h7] at he
      cases h8 : badD s p (runN digitB (s.drop p))
      ·rw [h8] at he
       cases h9 : decide (valN 0 ((s.drop p).take (runN digitB (s.drop p))) < 9223372036854775808)
       ·rw [h9] at he; simp at he
       ·simp only [cond_true, cond_false]; omega
      ·rw [h8] at he; simp at he
    ·have := Zka (q := isAlnum) h (by rw [isAlnum, h4]; rfl)
     rw [h1, h2, h3, h4] at he
     cases h5 : decide ((32 : Int) < runN isAlnum (s.drop p))
     ·simp only [cond_true, cond_false]; omega
     ·rw [h5] at he; simp at he
   ·have := Zka (q := isNotLf) h (by rw [isNotLf, h1]; rfl)
    simp only [cond_true, cond_false]; omega
  ·simp only [cond_true, cond_false]; omega
 ·simp only [cond_true, cond_false]; omega
theorem all_ok (s : List UInt8) (w : World) (hL : Laid w) (hb3 : 6 ≤ w.heap.size) :
  Ret PP fn_scan_all #[Str s] w fun v w' => ∃ b ta tc ca cc, v = .tuple #[.pointer (some ⟨b, 0, none⟩), .int .i64 (allF s).2.2.2] ∧ SA w.heap.size b s (allF s).1 (allF s).2.1 (allF s).2.2.1 ta tc ca cc w' ∧ G w w' := by
 have g := G.refl w
 refine Ym (m := 27) func_scan_all rfl rfl [(0, True, _)] (Za rfl (Zd _)) ?_
 refine Zg fun K1 hK1 => ?_
 refine Zf [3, 3] ?_
 refine Zc rfl (fun _ => Ze Zl) ?_
 refine Zc rfl (fun _ => Ze Zl) ?_
 refine Zh (hK1 _ _ ?_)
 refine Zg fun K2 hK2 => ?_
 refine Zf [3, 3, 1, 3] ?_
 refine Zc rfl (fun _ => Zi (Zb rfl)) ?_
 refine Zc rfl (fun _ => We [_, _, _, _] Qvb rfl Qwb (Zp (Zb rfl) (Yc)) rfl) ?_
 refine Wd rfl (Zb rfl) rfl ?_
 intro b8 w8 N8
 have l8 := N8.ge g
 have g := g.trans (N8.g)
 have B8 := N8.blk
 refine Zc rfl (fun _ => Ze (Zb rfl)) ?_
 refine Zj [(0, _, _), (2, _, _), (3, _, _), (4, _, _)] (Za rfl (Za rfl (Za rfl (Za rfl (Zd _))))) ?_
 refine Zh (hK2 _ _ ?_)
 refine Zg fun K3 hK3 => ?_
 refine Zg fun K4 hK4 => ?_
 refine Zf [3, 3, 3] ?_
 refine Zc rfl (fun _ => Zi (Zb rfl)) ?_
 refine Zc rfl (fun _ => Wz Yv (Zb rfl)) ?_
 refine Zc rfl (fun _ => Js (Zb rfl) Zl) ?_
 refine Zj [(0, _, _), (2, _, _), (3, _, _), (4, _, _), (11, _, _)] (Za rfl (Za rfl (Za rfl (Za rfl (Za rfl (Zd _)))))) ?_
 refine Zh (hK4 _ _ ?_)
 refine Zz (Zb rfl) (fun h1 => ?_) (fun h1 => ?_)
 ·have hN : allF s = (0, [], [], 3) := by unfold allF; rw [h1]; rfl
  refine Zg fun K5 hK5 => ?_
  refine Zf [3, 3, 3] ?_
  refine Zc rfl (fun _ => Zi (Zb rfl)) ?_
  refine Zc rfl (fun _ => Ze (Zb rfl)) ?_
  refine Zc rfl (fun _ => Ze Zl) ?_
  refine Zj [(0, _, _), (2, _, _), (3, _, _), (4, _, _)] (Za rfl (Za rfl (Za rfl (Za rfl (Zd _))))) ?_
  refine Zh (hK5 _ _ ?_)
  refine Yf (Zsa (ts := [2, 3]) (vs := [_, _]) rfl rfl rfl ?_)
  rw [hN]; exact ⟨b8, none, 0, none, 0, rfl, ⟨B8, l8, Qq _ _ _ _, Qq _ _ _ _, (by intro h; cases h), (by intro h; cases h), (by intro k h; cases h)⟩, g⟩
 have hN : allF s = goF s s.length 0 [] [] := by unfold allF; rw [h1]; rfl
 simp only [decide_eq_false_iff_not] at h1
 refine Yq (hK3 _ _ ?_)
 refine Yi [(0, _, _), (2, _, _), (3, _, _), (4, _, _)] (Za rfl (Za rfl (Za rfl (Za rfl (Zd _))))) ?_
 refine Zg fun K6 hK6 => ?_
 refine Yp ?_
 refine Zba (fun (x : Nat × List Tok × List Tok × Nat) u => Scn w.heap.size b8 s x.1 x.2.1 x.2.2.1 u ∧ s.length - x.1 ≤ x.2.2.2 ∧ goF s x.2.2.2 x.1 x.2.1 x.2.2.1 = goF s s.length 0 [] [] ∧ G w u) (fun _ => [(0, True, Str s), (4, True, .pointer (some ⟨b8, 0, none⟩))]) (fun x => s.length - x.1) (0, [], [], s.length)
  ⟨(show SA w.heap.size b8 s 0 [] [] none 0 none 0 w8 from ⟨B8, l8, Qq _ _ _ _, Qq _ _ _ _, (by intro h; cases h), (by intro h; cases h), (by intro k h; cases h)⟩).scn (Nat.zero_le _) (Nat.zero_le _) (Nat.zero_le _) (by omega), Nat.sub_le _ _, rfl, g⟩ (Za rfl (Za rfl (Zd _))) ?_
 rintro ⟨p, ts, cs, f⟩ u ⟨hs, hf, he, g⟩
 simp only at hs hf he
 obtain ⟨ta, tc, ca, cc, hA, k1, k2, k3, k4⟩ := hs.sa
 refine Zg fun K7 hK7 => ?_
 refine Zg fun K8 hK8 => ?_
 refine Zf [3, 3, 3, 0, 3, 3, 3] ?_
 refine Zc rfl (fun _ => Zi (Zb rfl)) ?_
 refine Zc rfl (fun _ => Xl (Zb rfl)) ?_
 refine Zc rfl (fun _ => Zm Yx (Zb rfl)) ?_
 refine Ya rfl (Zt Yy (Zb rfl) (fun _ => hA.B.at_ rfl)) ?_
 refine Zc rfl (fun _ => Zi (Zb rfl)) ?_
 refine Zc rfl (fun _ => Wz Yv (Zb rfl)) ?_
 refine Zc rfl (fun _ => Vh (Zb rfl) (Zb rfl)) ?_
 refine Zj [(0, _, _), (4, _, _), (19, _, _)] (Za rfl (Za rfl (Za rfl (Zd _)))) ?_
 refine Zh (hK8 _ _ ?_)
 refine Zz (Zb rfl) (fun h2 => ?_) (fun h2 => ?_)
 ·replace h2 : p < s.length := by simp only [decide_eq_true_eq] at h2; omega
  obtain ⟨f', rfl⟩ : ∃ f', f = f' + 1 := ⟨f - 1, by omega⟩
  rw [goF, decide_eq_true h2, cond_true] at he
  refine Yq (hK7 _ _ ?_)
  refine Yi [(0, _, _), (4, _, _)] (Za rfl (Za rfl (Zd _))) ?_
  refine Yp ?_
  refine Zg fun K9 hK9 => ?_
  refine Zf [3, 2, 3] ?_
  refine Zc rfl (fun _ => Zi (Zb rfl)) ?_
  refine Yd rfl (Zu Jfa Yl (Zk (Zb rfl) (Zn)) rfl) (next_ok _ _ hb3 s p ts cs _ (hL.grow g) hs h2) ?_
  rintro v21 w21 ⟨rfl, hs', hb'⟩
  refine ⟨fun h => absurd h (by decide), ?_⟩
  have g : G w w21 := Below.trans g hb'
  refine Zc rfl (fun _ => Ze (Zb rfl)) ?_
  refine Zj [(0, _, _), (4, _, _), (5, _, _)] (Za rfl (Za rfl (Za rfl (Zd _)))) ?_
  refine Zh (hK9 _ _ ?_)
  refine Zg fun K10 hK10 => ?_
  refine Zf [3, 3] ?_
  refine Zc rfl (fun _ => Zi (Zb rfl)) ?_
  refine Zc rfl (fun _ => Qi (Zb rfl) Zl) ?_
  refine Zj [(0, _, _), (4, _, _), (5, _, _), (23, _, _)] (Za rfl (Za rfl (Za rfl (Za rfl (Zd _))))) ?_
  refine Zh (hK10 _ _ ?_)
  refine Zz (Zb rfl) (fun h3 => ?_) (fun h3 => ?_)
  ·replace h3 : decide ((nextF s p ts cs).2.2.2 = 0) = false := by simpa using h3
   rw [h3, cond_false] at he
   refine Zg fun K11 hK11 => ?_
   refine Zf [3, 3, 3, 3] ?_
   refine Zc rfl (fun _ => Zi (Zb rfl)) ?_
   refine Zc rfl (fun _ => Zi (Zb rfl)) ?_
   refine Zc rfl (fun _ => Ze (Zb rfl)) ?_
   refine Zc rfl (fun _ => Ze (Zb rfl)) ?_
   refine Zj [(0, _, _), (2, _, _), (3, _, _), (4, _, _)] (Za rfl (Za rfl (Za rfl (Za rfl (Zd _))))) ?_
   refine Zh (hK11 _ _ ?_)
   refine Yf (Zsa (ts := [2, 3]) (vs := [_, _]) rfl rfl rfl ?_)
   rw [hN, ← he]
   obtain ⟨ta, tc, ca, cc, hA, _⟩ := hs'.sa
   exact ⟨b8, ta, tc, ca, cc, rfl, hA, g⟩
  replace h3 : (nextF s p ts cs).2.2.2 = 0 := by simpa using h3
  have hlt := Zyc h2 h3
  rw [decide_eq_true h3, cond_true] at he
  refine Yi [(0, _, _), (4, _, _)] (Za rfl (Za rfl (Zd _))) ?_
  refine Yq (fun a ha => ?_)
  exact ⟨(_, _, _, f'), ha, ⟨hs', by show s.length - (nextF s p ts cs).1 ≤ f'; omega, he, g⟩, by show s.length - (nextF s p ts cs).1 < s.length - p; omega⟩
 have hp : p = s.length := by simp only [decide_eq_false_iff_not] at h2; omega
 have he : (p, ts, cs, (0 : Int)) = goF s s.length 0 [] [] := by
  rw [← he]
  cases f with
  | zero => rfl
  | succ f' => rw [goF, decide_eq_false (by omega : ¬ p < s.length)]; rfl
 refine Wa rfl (hK6 _ _ ?_)
 refine Yi [(4, _, _)] (Za rfl (Zd _)) ?_
 refine Zg fun K12 hK12 => ?_
 refine Zf [3, 3, 3] ?_
 refine Zc rfl (fun _ => Zi (Zb rfl)) ?_
 refine Zc rfl (fun _ => Ze (Zb rfl)) ?_
 refine Zc rfl (fun _ => Ze Zl) ?_
 refine Zh (hK12 _ _ ?_)
 refine Yi [(2, _, _), (3, _, _), (4, _, _), (26, _, _)] (Za rfl (Za rfl (Za rfl (Za rfl (Zd _))))) ?_
 refine Yf (Zsa (ts := [2, 3]) (vs := [_, _]) rfl rfl rfl ?_)
 rw [hN, ← he]
 exact ⟨b8, ta, tc, ca, cc, rfl, hA, g⟩
def scanF (s : List UInt8) : List Tok × Nat × Int := bif !decide ((allF s).2.2.2 = 0) then ([], (allF s).1, (allF s).2.2.2) else ((allF s).2.1, 0, 0)
def Toks (base : Nat) (l : List Tok) (v : Value) (w : World) : Prop := w.ownsRow base Vf 3 v l.length (toksCells l)
theorem scan_ok (s : List UInt8) (w : World) (hL : Laid w) (hb3 : 6 ≤ w.heap.size) :
  Ret PP fn_scan_Scan #[Str s] w fun v w' => ∃ l, v = .tuple #[l, .int .i64 (scanF s).2.1, .int .i64 (scanF s).2.2] ∧ Toks w.heap.size (scanF s).1 l w' ∧ G w w' := by
 have g := G.refl w
 refine Ym (m := 23) Zpc rfl rfl [(0, True, _)] (Za rfl (Zd _)) ?_
 refine Zg fun K1 hK1 => ?_
 refine Zf [3, 3, 3] ?_
 refine Zc rfl (fun _ => Ze Zl) ?_
 refine Zc rfl (fun _ => Ze Zl) ?_
 refine Zc rfl (fun _ => Ze Zl) ?_
 refine Zh (hK1 _ _ ?_)
 refine Zg fun K2 hK2 => ?_
 refine Zf [3, 1, 3, 3, 3, 3, 3] ?_
 refine Zc rfl (fun _ => Zi (Zb rfl)) ?_
 refine Yd rfl (Zu go_scan_all Yl (Zk (Zb rfl) (Zn)) rfl) (all_ok s _ (hL.grow g) hb3) ?_
 rintro v9 w9 ⟨b, ta, tc, ca, cc, rfl, hA, g9⟩
 refine ⟨fun _ => g9, ?_⟩
 have g := g.trans g9
 refine Zc rfl (fun _ => Zi (Zb rfl)) ?_
 refine Zc rfl (fun _ => Wu (Zb rfl) rfl) ?_
 refine Zc rfl (fun _ => Wu (Zb rfl) rfl) ?_
 refine Zc rfl (fun _ => Ze (Zb rfl)) ?_
 refine Zc rfl (fun _ => Ze (Zb rfl)) ?_
 refine Zj [(2, _, _), (3, _, _), (4, _, _), (5, _, _), (6, _, _)] (Za rfl (Za rfl (Za rfl (Za rfl (Za rfl (Zd _)))))) ?_
 refine Zh (hK2 _ _ ?_)
 refine Zg fun K3 hK3 => ?_
 refine Zg fun K4 hK4 => ?_
 refine Zf [3, 3] ?_
 refine Zc rfl (fun _ => Zi (Zb rfl)) ?_
 refine Zc rfl (fun _ => Qi (Zb rfl) Zl) ?_
 refine Zj [(2, _, _), (3, _, _), (4, _, _), (5, _, _), (6, _, _), (13, _, _)] (Za rfl (Za rfl (Za rfl (Za rfl (Za rfl (Za rfl (Zd _))))))) ?_
 refine Zh (hK4 _ _ ?_)
 refine Zz (Zb rfl) (fun h1 => ?_) (fun h1 => ?_)
 ·(try simp only [bsimp] at h1)
  refine Zg fun K5 hK5 => ?_
  refine Vm [3, 3, 3, 0, 3, 3, 3, 3] [true, true, true, true, true, true, true, true] [0, 1, 3, 7, 0, 0, 47, 127] mix (by kernel_rfl) ?_
  have g := g.trans (G.drew _)
  have gh := G.drew w9
  refine Zc rfl (fun _ => Zi (Zb rfl)) ?_
  refine Zc rfl (fun _ => Xl (Zb rfl)) ?_
  refine Zc rfl (fun _ => Zm Yx (Zb rfl)) ?_
  refine Ya rfl (Zt Yy (Zb rfl) (fun _ => by first | exact (hA.grow gh).B.at_ rfl)) ?_
  refine Zc rfl (fun _ => Zi (Zb rfl)) ?_
  refine Zc rfl (fun _ => Ze Zl) ?_
  refine Zc rfl (fun _ => Ze (Zb rfl)) ?_
  refine Zc rfl (fun _ => Ze (Zb rfl)) ?_
  refine Zj [(2, _, _), (3, _, _), (4, _, _), (5, _, _)] (Za rfl (Za rfl (Za rfl (Za rfl (Zd _))))) ?_
  refine Zh (hK5 _ _ ?_)
  refine Yf (Zsa (ts := [2, 3, 4]) (vs := [_, _, _]) rfl rfl rfl ?_)
  refine ⟨.slice none 0 0, ?_, ?_, g⟩
  ·rw [scanF, show (!decide ((allF s).2.2.2 = 0)) = true from h1]; rfl
  ·rw [scanF, show (!decide ((allF s).2.2.2 = 0)) = true from h1]; exact Qq _ _ _ _
 have gh := G.refl w9
 refine Yq (hK3 _ _ ?_)
 refine Yi [(2, _, _), (3, _, _), (4, _, _), (5, _, _)] (Za rfl (Za rfl (Za rfl (Za rfl (Zd _))))) ?_
 refine Zg fun K6 hK6 => ?_
 refine Zf [3, 3, 3, 0, 3, 3, 3] ?_
 refine Zc rfl (fun _ => Zi (Zb rfl)) ?_
 refine Zc rfl (fun _ => Xl (Zb rfl)) ?_
 refine Zc rfl (fun _ => Zm Vp (Zb rfl)) ?_
 refine Ya rfl (Zt Uk (Zb rfl) (fun _ => by first | exact (hA.grow gh).B.at_ rfl)) ?_
 refine Zc rfl (fun _ => Ze (Zb rfl)) ?_
 refine Zc rfl (fun _ => Ze Zl) ?_
 refine Zc rfl (fun _ => Ze Zl) ?_
 refine Zj [(2, _, _), (3, _, _), (4, _, _)] (Za rfl (Za rfl (Za rfl (Zd _)))) ?_
 refine Zh (hK6 _ _ ?_)
 refine Yf (Zsa (ts := [2, 3, 4]) (vs := [_, _, _]) rfl rfl rfl ?_)
 refine ⟨.slice ta (allF s).2.1.length tc, ?_, ?_, g⟩
 ·rw [scanF, show (!decide ((allF s).2.2.2 = 0)) = false from h1]; rfl
 ·rw [scanF, show (!decide ((allF s).2.2.2 = 0)) = false from h1]; exact hA.ht
end Go.Rk
namespace Go.Rk
open Go Go.RowKit
set_option linter.unusedVariables false
section
variable {P : Program} {n : Nat} {σ : List Ent} {c : Prop} {wb : World} {ty : TypeId} {v : Value}
def Zzc (P : Program) (src dst : TypeId) : Bool := match P.underlying src, P.underlying dst with
 | some (.pointer t), some .unsafePointer => match P.info? t with | some i => !(Nat.beq i.size 0) | none => false
 | _, _ => false
theorem blk_shape {w : World} {b : Nat} {e : TypeId} {l : List Value} (h : Blk w b e l) : w.shape? b = some (e, l.length) := by
 unfold Blk at h
 simp [World.shape?, h]
theorem rd_to_unsafe {src dst : TypeId} {x : Operand} {b o : Nat} {e : TypeId} {l : List Value} (hk : Zzc P src dst = true) (h : Ev n σ c x (.pointer (some ⟨b, o, none⟩))) (hB : c → Blk wb b e l) (ho : Nat.blt o l.length = true) : Rd P n σ c wb (.convert src dst x) ty (.pointer (some ⟨b, o, none⟩)) := fun d pos after gd a ha hc w1 hg => by
 unfold Zzc at hk
 split at hk
 ·rename_i t hs hd
  split at hk
  ·rename_i i hi
   have := Lib.run_to_unsafe w1 ⟨b, o, none⟩ hs hd hi (by intro hz; rw [hz] at hk; cases hk) (blk_shape ((hB hc).grow hg)) (by simpa [Nat.blt_eq] using ho)
   simp [execOp, h a ha hc, this]
  ·cases hk
 ·cases hk
def Yqb (P : Program) (src dst : TypeId) (e : TypeId) (k o : Nat) : Bool := match P.underlying src, P.underlying dst with
 | some .unsafePointer, some (.pointer u) => (P.info? u).isSome && liesAt P P.depth e (k / P.cellsOf e) o u 1
 | _, _ => false
theorem Yac {src dst : TypeId} {x : Operand} {b o : Nat} {e : TypeId} {l : List Value} (hk : Yqb P src dst e l.length o = true) (h : Ev n σ c x (.pointer (some ⟨b, o, none⟩))) (hB : c → Blk wb b e l) : Rd P n σ c wb (.convert src dst x) ty (.pointer (some ⟨b, o, none⟩)) := fun d pos after gd a ha hc w1 hg => by
 unfold Yqb at hk
 split at hk
 ·rename_i u hs hd
  simp only [Bool.and_eq_true] at hk
  obtain ⟨i, hi⟩ := Option.isSome_iff_exists.mp hk.1
  have := Lib.run_from_unsafe w1 ⟨b, o, none⟩ hs hd hi (blk_shape ((hB hc).grow hg)) hk.2
  simp [execOp, h a ha hc, this]
 ·cases hk
def Yrb (P : Program) (f : FuncId) : Prop := ∀ (x : Value) (w : World), (callFunc f #[x]).run P w = .ok (.value x) w
theorem noEscape_of {f : FuncId} {fn : Func} (hf : P.funcs[f]? = some fn) (hname : (fn.name == "runtime.NumGoroutine") = false) (hb : fn.body.isNone = true) (hn : Extern.findNext fn = none) (he : Extern.find fn = some Extern.AbiNoEscape.same) : Yrb P f := fun x w => by
 rw [run_callFunc_extern hf hname hb hn he, Lib.run_noEscape]; rfl
theorem rd_noescape {f : FuncId} {x : Operand} {ats : Array TypeId} (hf : Yrb P f) (h : Ev n σ c x v) : Rd P n σ c wb (.call { callee := .value (.func f), args := #[x], argTypes := ats }) ty v := fun d pos after gd a ha hc w1 _ => by
 have h1 := hf v w1
 have e : a.eval (.func f) = .func (.func f) #[] #[] := rfl
 simp [execOp, resolve, invoke, Deferred.ofValue, e, h a ha hc, h1]
theorem rd_pne_same {t u : TypeId} {x y : Operand} {ad : Addr} (ht : tyPtr P t = true) (hz : ∀ e, P.underlying t = some (.pointer e) → (P.info? e).isSome = true) (h : Ev n σ c x (.pointer (some ad))) (h' : Ev n σ c y (.pointer (some ad))) : Rd P n σ c wb (.binOp .neq t x y u) ty (.bool false) := fun d pos after gd a ha hc w1 _ => by
 obtain ⟨e, he⟩ := Qra ht
 obtain ⟨j, hj⟩ := Option.isSome_iff_exists.mp (hz e he)
 have := Lib.run_neq_ptr_same w1 ad he hj
 simp [execOp, h a ha hc, h' a ha hc, eqGuard_at_pointer, this]
end
section
variable {P : Program} {Z : List PanicEntry → Act → World → Prop} {ops : List Oper} {cl : List Nat} {lv : List Bool} {W0 : World} {n : Nat} {K : Act → World → Prop} {k : Nat} {rest : List Oper} {σ : List Ent} {w : World} {d : Nat} {ty : TypeId} {pos : String} {after : Array Edge}
theorem sr_callq {g t : Nat} {want b : Bool} {c0 : Prop} {op : Op} {f : FuncId} {args : Array Value} {R : Value → World → Prop} (hb : (!Nat.beq (clOf cl k) 0 && !Nat.beq (clOf cl k) 3 && Nat.blt d n) = true)
  (hgd : ((ops.toArray[g]?).bind (·.dst)) = some t) (hlk : look σ t = some (c0, .bool b)) (hr : c0 ∧ b = want → RunC P n σ (c0 ∧ b = want) w op ty f args) (hC : c0 ∧ b = want → Ret P f args w fun v w' => R v w' ∧ G w w')
  (h : ∀ v w', (c0 ∧ b = want → R v w') → G w w' → SR P Z ops cl lv W0 n K (k + 1) rest ((d, c0 ∧ b = want, v) :: σ) w') :
  SR P Z ops cl lv W0 n K k (⟨some d, op, ty, pos, after, some (g, want)⟩ :: rest) σ w :=
 sr_callg hb hgd hlk hr hC (fun v w' _ hv => ⟨fun _ => hv.2, h v w' (fun _ => hv.1) hv.2⟩) (fun hn => h undef w (fun hc => absurd hc hn) (G.refl w))
theorem sr_appends {t u e base m : Nat} {x y : Operand} {s : Value} {xs : List Value} {l : List UInt8} (hb : (Nat.beq (clOf cl k) 2 && Nat.blt d n) = true) (ht : tyElem P t = some (e, 1, 1)) (hzv : zeroOf P e = some (.int .u8 0)) (hus : Xcb P u = true)
  (hx : Ev n σ True x s) (hown : w.ownsRow base e 1 s m xs) (hy : Ev n σ True y (Str l)) (h63 : m + l.length ≤ 140737488355328) (hbase : base ≤ w.heap.size)
  (h : ∀ a' c' w', w'.ownsRow base e 1 (.slice a' (m + l.length) c') (m + l.length) (xs ++ Lib.byteCells l) → w.grownBy w' s.ownBlock → SR P Z ops cl lv W0 n K (k + 1) rest ((d, True, .slice a' (m + l.length) c') :: σ) w') :
  SR P Z ops cl lv W0 n K k (⟨some d, .call { callee := .builtin .append, args := #[x, y], argTypes := #[t, u] }, ty, pos, after, none⟩ :: rest) σ w := by
 obtain ⟨hu, i, hi, hsz, hbyi⟩ := Uh ht
 obtain ⟨i', hi', hz'⟩ := Xka hzv
 obtain rfl : i = i' := Option.some.inj (hi.symm.trans hi')
 simp only [Bool.and_eq_true] at hb
 have hc := Nat.eq_of_beq_eq_true hb.1
 have hsl : (⟨l.toArray⟩ : ByteArray).size = l.length := by simp [ByteArray.size]
 obtain ⟨s', w', r1, r2, r3, _⟩ := Lib.run_append_own_string (P := P) w base t u ty e i hu (Vl hus) hi hz' hsz hbyi s m xs hown ⟨l.toArray⟩ (by rw [hsl]; simp only [maxLen]; omega) (by rw [hsl]; omega) hbase
 rw [hsl] at r2
 obtain ⟨a', c', hs'⟩ : ∃ a' c', s' = .slice a' (m + l.length) c' := by
  rcases r2.2 with ⟨q1, q2⟩ | ⟨g, cap, cur, q1, _⟩
  ·exact ⟨none, 0, by rw [q1, q2]⟩
  ·exact ⟨_, cap, q1⟩
 subst hs'
 refine Jnb (w' := w') (by rw [hc, hb.2]; rfl) (fun d pos after g a ha _ => ?_) (fun hh => by omega) (h a' c' w' r2 r3)
 simp only [execOp, resolve, invoke, builtin, Sem.run_bind, Sem.run_pure, Result.andThen_ok, List.map_toArray, List.map_cons, List.map_nil, hx a ha trivial, hy a ha trivial, r1]
end
end Go.Rk
namespace Go.Rk
open Go Go.RowKit
set_option linter.unusedVariables false
structure Ty where
 kind : Int
 name : List UInt8
inductive Nd where
 | mk (kind : Int) (text : List UInt8) (num pos : Int) (kids : List Nd) (ty : Ty) (ref up : Int)
namespace Nd
def kind : Nd → Int | .mk k _ _ _ _ _ _ _ => k
def text : Nd → List UInt8 | .mk _ x _ _ _ _ _ _ => x
def num : Nd → Int | .mk _ _ n _ _ _ _ _ => n
def pos : Nd → Int | .mk _ _ _ a _ _ _ _ => a
def kids : Nd → List Nd | .mk _ _ _ _ ks _ _ _ => ks
def ty : Nd → Ty | .mk _ _ _ _ _ y _ _ => y
def ref : Nd → Int | .mk _ _ _ _ _ _ r _ => r
def up : Nd → Int | .mk _ _ _ _ _ _ _ u => u
end Nd
def ty0 : Ty := ⟨0, []⟩
def nd0 : Nd := .mk 0 [] 0 0 [] ty0 0 0
def tyCells (y : Ty) : List Value := [.int .i64 y.kind, Str y.name]
def ndCells (t : Nd) (v : Value) : List Value := [.int .i64 t.kind, Str t.text, .int .i64 t.num, .int .i64 t.pos, v, .int .i64 t.ty.kind, Str t.ty.name, .int .i64 t.ref, .int .i64 t.up]
@[reducible] def tyV (y : Ty) : Value := .agg (tyCells y).toArray
@[reducible] def ndV (t : Nd) (v : Value) : Value := .agg (ndCells t v).toArray
theorem Xua (t : Nd) (v : Value) : (ndCells t v).length = 9 := rfl

mutual
theorem Nd.ind_n {C : Nd → Prop} (h : ∀ t, (∀ k ∈ t.kids, C k) → C t) : ∀ t, C t
 | .mk k x n a ks y r u => h _ (Nd.ind_l h ks)
theorem Nd.ind_l {C : Nd → Prop} (h : ∀ t, (∀ k ∈ t.kids, C k) → C t) : ∀ (l : List Nd), ∀ k ∈ l, C k
 | [] => fun _ hk => by cases hk
 | t :: ts => List.forall_mem_cons.2 ⟨Nd.ind_n h t, Nd.ind_l h ts⟩
end
theorem Nd.ind {C : Nd → Prop} (h : ∀ t, (∀ k ∈ t.kids, C k) → C t) (t : Nd) : C t := Nd.ind_n h t

section
variable {α : Type}
mutual
def para (f : Nd → List α → α) : Nd → α
 | .mk k x n a ks y r u => f (.mk k x n a ks y r u) (paraL f ks)
def paraL (f : Nd → List α → α) : List Nd → List α
 | [] => []
 | t :: ts => para f t :: paraL f ts
end
theorem paraL_eq (f : Nd → List α → α) (l : List Nd) : paraL f l = l.map (para f) := by
 induction l with
 | nil => rfl
 | cons t ts ih => rw [paraL, ih]; rfl
theorem Xfa (f : Nd → List α → α) (t : Nd) : para f t = f t (t.kids.map (para f)) := by
 cases t with
 | mk k x n a ks y r u => rw [para, paraL_eq]; rfl
end

mutual
def KRow (w : World) (D : Nat → Prop) : List Nd → List Value → Prop
 | [], xs => xs = []
 | t :: ts, xs => ∃ v r, xs = ndCells t v ++ r ∧ KNd w D t v ∧ KRow w D ts r
def KNd (w : World) (D : Nat → Prop) : Nd → Value → Prop
 | .mk _ _ _ _ ks _ _ _, v => ∃ p c, v = .slice p ks.length c ∧ ks.length ≤ c ∧ (0 < ks.length → ∃ b o, p = some ⟨b, o, none⟩ ∧ D b ∧ ∃ xs, RowAt w b o xs ∧ KRow w D ks xs)
end
def Kd (w : World) (D : Nat → Prop) (ks : List Nd) (v : Value) : Prop :=
 ∃ p c, v = .slice p ks.length c ∧ ks.length ≤ c ∧ (0 < ks.length → ∃ b o, p = some ⟨b, o, none⟩ ∧ D b ∧ ∃ xs, RowAt w b o xs ∧ KRow w D ks xs)
theorem Ysb (w : World) (D : Nat → Prop) (t : Nd) (v : Value) : KNd w D t v = Kd w D t.kids v := by
 cases t; rw [KNd]; rfl
theorem krow_nil {w : World} {D : Nat → Prop} : KRow w D [] [] := rfl
theorem Vs {w : World} {D : Nat → Prop} {t : Nd} {ts : List Nd} {v : Value} {r : List Value} (h : Kd w D t.kids v) (k : KRow w D ts r) : KRow w D (t :: ts) (ndCells t v ++ r) :=
 ⟨v, r, rfl, (Ysb ..).symm ▸ h, k⟩
theorem Jla {w : World} {D : Nat → Prop} : ∀ {ks : List Nd} {xs : List Value}, KRow w D ks xs → xs.length = ks.length * 9
 | [], xs, h => by rw [show xs = [] from h]; rfl
 | t :: ts, xs, h => by
  obtain ⟨v, r, rfl, _, h⟩ := h
  rw [List.length_append, Xua, Jla h, List.length_cons]; omega
theorem Uib {w : World} {D : Nat → Prop} : ∀ {ks ls : List Nd} {xs ys : List Value}, KRow w D ks xs → KRow w D ls ys → KRow w D (ks ++ ls) (xs ++ ys)
 | [], ls, xs, ys, h, k => by rw [show xs = [] from h]; exact k
 | t :: ts, ls, xs, ys, h, k => by
  obtain ⟨v, r, rfl, h1, h⟩ := h
  exact ⟨v, r ++ ys, by rw [List.append_assoc], h1, Uib h k⟩
theorem Uv {w : World} {D : Nat → Prop} {t : Nd} {v : Value} (h : Kd w D t.kids v) : KRow w D [t] (ndCells t v) := by
 have := Vs h (krow_nil (w := w) (D := D)); rwa [List.append_nil] at this
theorem krow_get {w : World} {D : Nat → Prop} : ∀ {ks : List Nd} {xs : List Value} (_ : KRow w D ks xs) {i : Nat} (hi : i < ks.length), ∃ v, (xs.drop (i * 9)).take 9 = ndCells ks[i] v ∧ Kd w D ks[i].kids v
 | [], xs, h, i, hi => by cases hi
 | t :: ts, xs, h, i, hi => by
  obtain ⟨v, r, rfl, h1, h⟩ := h
  cases i with
  | zero => exact ⟨v, by simp [ndCells], Ysb w D t v ▸ h1⟩
  | succ i =>
   have hi' : i < ts.length := by simpa using hi
   obtain ⟨v', e, k⟩ := krow_get h hi'
   refine ⟨v', ?_, k⟩
   have e9 : (ndCells t v ++ r).drop ((i + 1) * 9) = r.drop (i * 9) := by
    rw [show (i + 1) * 9 = 9 + i * 9 by omega, ← List.drop_drop]; rfl
   rw [e9]; exact e
mutual
theorem Jq {w w' : World} {D D' : Nat → Prop} (hD : ∀ b, D b → b < w.heap.size → D' b) (hf : ∀ b, D b → b < w.heap.size → w'.heap[b]? = w.heap[b]?) : ∀ (ks : List Nd) (xs : List Value), KRow w D ks xs → KRow w' D' ks xs
 | [], xs, h => h
 | t :: ts, xs, h => by
  obtain ⟨v, r, rfl, h1, h⟩ := h
  exact ⟨v, r, rfl, knd_frame hD hf t v h1, Jq hD hf ts r h⟩
theorem knd_frame {w w' : World} {D D' : Nat → Prop} (hD : ∀ b, D b → b < w.heap.size → D' b) (hf : ∀ b, D b → b < w.heap.size → w'.heap[b]? = w.heap[b]?) : ∀ (t : Nd) (v : Value), KNd w D t v → KNd w' D' t v
 | .mk k x n a ks y r u, v, h => by
  obtain ⟨p, c, rfl, hc, h⟩ := h
  refine ⟨p, c, rfl, hc, fun h0 => ?_⟩
  obtain ⟨b, o, rfl, hb, xs, hR, hX⟩ := h h0
  have hl : xs.length = ks.length * 9 := Jla hX
  have h0' : ∃ u, xs[0]? = some u := ⟨xs[0]'(by omega), by simp⟩
  obtain ⟨u0, hu0⟩ := h0'
  have hlt : b < w.heap.size := World.block_lt_of_cell? w _ (hR 0 u0 hu0)
  have hb' := hf b hb hlt
  refine ⟨b, o, rfl, hD b hb hlt, xs, fun j u hj => ?_, Jq hD hf ks xs hX⟩
  have := hR j u hj
  unfold World.cell? at this ⊢
  simp only [hb']
  exact this
end
theorem Xva {w w' : World} {D D' : Nat → Prop} {ks : List Nd} {v : Value} (h : Kd w D ks v) (hD : ∀ b, D b → b < w.heap.size → D' b) (hf : ∀ b, D b → b < w.heap.size → w'.heap[b]? = w.heap[b]?) : Kd w' D' ks v := by
 have := knd_frame hD hf (.mk 0 [] 0 0 ks ty0 0 0) v ((Ysb w D _ v).symm ▸ h)
 rw [Ysb] at this; exact this
theorem Kd.mono {w : World} {D D' : Nat → Prop} {ks : List Nd} {v : Value} (h : Kd w D ks v) (hD : ∀ b, D b → b < w.heap.size → D' b) : Kd w D' ks v := Xva h hD fun _ _ _ => rfl
theorem KRow.mono {w : World} {D D' : Nat → Prop} {ks : List Nd} {xs : List Value} (h : KRow w D ks xs) (hD : ∀ b, D b → b < w.heap.size → D' b) : KRow w D' ks xs := Jq hD (fun _ _ _ => rfl) _ _ h
theorem Kd.grow {w w' : World} {D : Nat → Prop} {ks : List Nd} {v : Value} (h : Kd w D ks v) (g : G w w') : Kd w' D ks v := Xva h (fun _ h _ => h) fun _ _ hb => g.block hb
theorem KRow.grow {w w' : World} {D : Nat → Prop} {ks : List Nd} {xs : List Value} (h : KRow w D ks xs) (g : G w w') : KRow w' D ks xs := Jq (fun _ h _ => h) (fun _ _ hb => g.block hb) _ _ h
theorem Kd.keep {w w' : World} {D : Nat → Prop} {ks : List Nd} {v : Value} {row : Option Nat} (h : Kd w D ks v) (hg : w.grownBy w' row) (hne : ∀ b, D b → b < w.heap.size → some b ≠ row) : Kd w' D ks v := Xva h (fun _ h _ => h) fun b hb hlt => hg.block b hlt (hne b hb hlt)
theorem KRow.keep {w w' : World} {D : Nat → Prop} {ks : List Nd} {xs : List Value} {row : Option Nat} (h : KRow w D ks xs) (hg : w.grownBy w' row) (hne : ∀ b, D b → b < w.heap.size → some b ≠ row) : KRow w' D ks xs := Jq (fun _ h _ => h) (fun b hb hlt => hg.block b hlt (hne b hb hlt)) _ _ h
theorem Kd.lt {w : World} {D : Nat → Prop} {ks : List Nd} {v : Value} (h : Kd w D ks v) : Kd w (fun b => D b ∧ b < w.heap.size) ks v := Xva h (fun _ h hl => ⟨h, hl⟩) fun _ _ _ => rfl
theorem KRow.lt {w : World} {D : Nat → Prop} {ks : List Nd} {xs : List Value} (h : KRow w D ks xs) : KRow w (fun b => D b ∧ b < w.heap.size) ks xs := Jq (fun _ h hl => ⟨h, hl⟩) (fun _ _ _ => rfl) _ _ h
theorem Jb (w : World) (D : Nat → Prop) : Kd w D [] (.slice none 0 0) := ⟨none, 0, rfl, Nat.le_refl _, fun h => absurd h (Nat.lt_irrefl 0)⟩
theorem kd_own {w : World} {base : Nat} {e : TypeId} {v : Value} {m : Nat} {xs : List Value} {D : Nat → Prop} {ks : List Nd} (h : w.ownsRow base e 9 v m xs) (hm : m = ks.length) (k : KRow w D ks xs) (hD : ∀ b, v.ownBlock = some b → D b) : Kd w D ks v := by
 subst hm
 obtain ⟨a, c, rfl, hc⟩ := own_sl h
 refine ⟨a, c, rfl, hc, fun h0 => ?_⟩
 obtain ⟨b, c', hv, _, hR, _⟩ := Qyb h h0
 injection hv with hv _ _
 subst hv
 exact ⟨b, 0, rfl, hD b rfl, xs, hR, k⟩
theorem Yza {w : World} {D : Nat → Prop} {ks : List Nd} {b o c : Nat} {xs : List Value} (hb : D b) (hR : RowAt w b o xs) (hX : KRow w D ks xs) (hc : ks.length ≤ c) : Kd w D ks (.slice (some ⟨b, o, none⟩) ks.length c) := ⟨_, c, rfl, hc, fun _ => ⟨b, o, rfl, hb, xs, hR, hX⟩⟩
theorem Yna {w : World} {D : Nat → Prop} {ks : List Nd} {b o : Nat} {xs : List Value} (hR : RowAt w b o xs) (hX : KRow w D ks xs) {i : Nat} (hi : i < ks.length) : ∃ p c, RowAt w b (o + i * 9) (ndCells ks[i] (.slice p ks[i].kids.length c)) ∧ Kd w D ks[i].kids (.slice p ks[i].kids.length c) := by
 obtain ⟨v, e, k⟩ := krow_get hX hi
 have := hR.part (i * 9) 9
 rw [e] at this
 obtain ⟨p, c, rfl, k1⟩ := k
 exact ⟨p, c, this, p, c, rfl, k1⟩
/-! counting -/
def count (t : Nd) : Nat := para (fun _ l => 1 + l.sum) t
theorem Ww (t : Nd) : count t = 1 + (t.kids.map count).sum := Xfa _ t
theorem Ujb (l : List Nat) (i : Nat) : (l.take i).sum ≤ l.sum := by
 conv => rhs; rw [← List.take_append_drop i l, List.sum_append]
 omega
theorem Ju {t : Nd} {i : Nat} (h : i < t.kids.length) : ((t.kids.take i).map count).sum + count t.kids[i] + 1 ≤ count t := by
 rw [Ww t]
 have := Ujb (t.kids.map count) (i + 1)
 rw [← List.map_take, List.take_add_one, List.getElem?_eq_getElem h] at this
 simp only [Option.toList_some, List.map_append, List.map_cons, List.map_nil, List.sum_append, List.sum_cons, List.sum_nil] at this
 omega
theorem Wg (t : Nd) : 1 ≤ count t := by rw [Ww]; omega
theorem Ui : ∀ (l : List Nd), l.length ≤ (l.map count).sum
 | [] => Nat.le_refl _
 | t :: ts => by have := Ui ts; have := Wg t; simp; omega
theorem Qm (t : Nd) : t.kids.length + 1 ≤ count t := by
 have := Ui t.kids; rw [Ww]; omega
theorem Xz {t k : Nd} (h : k ∈ t.kids) : count k + 1 ≤ count t := by
 obtain ⟨i, hi, rfl⟩ := List.getElem_of_mem h
 have := Ju hi; omega
theorem Vja {α β : Type} (f : α → β) (l : List α) (i : Nat) (h : i < l.length) : (l.take (i + 1)).map f = (l.take i).map f ++ [f l[i]] := by
 rw [List.take_add_one, List.getElem?_eq_getElem h, List.map_append]; rfl
end Go.Rk
namespace Go.Rk
open Go Go.RowKit
theorem rlet_ok (c : Int) (w : World) : Ret PP Ycb #[.int .u8 c] w fun v w' => v = .bool (letterB c) ∧ G w w' := by
 have g := G.refl w
 refine Ym (m := 21) Qaa rfl rfl [(0, True, _)] (Za rfl (Zd _)) ?_
 refine Zg fun K1 hK1 => ?_
 refine Zf [3] ?_
 refine Zc rfl (fun _ => Ze Zl) ?_
 refine Zh (hK1 _ _ ?_)
 refine Zg fun K2 hK2 => ?_
 refine Zf [3, 3, 3, 3, 3, 3, 3, 3, 3, 3, 3, 3, 3, 3, 3, 3, 3, 3, 3] ?_
 refine Zc rfl (fun _ => Zi (Zb rfl)) ?_
 refine Zc rfl (fun _ => Wla (Zb rfl) Zl) ?_
 refine Zc rfl (fun _ => Zi (Zb rfl)) ?_
 refine Zs rfl rfl rfl (fun _ => Zi (Zb rfl)) ?_
 refine Zs rfl rfl rfl (fun _ => Zxb (Zy rfl id) Zl) ?_
 refine Zc rfl (fun _ => Ye (Zb rfl) (Zy rfl id)) ?_
 refine Zc rfl (fun _ => Zi (Zb rfl)) ?_
 refine Zs rfl rfl rfl (fun _ => Zi (Zb rfl)) ?_
 refine Zs rfl rfl rfl (fun _ => Wla (Zy rfl id) Zl) ?_
 refine Zs rfl rfl rfl (fun _ => Zi (Zy rfl id)) ?_
 refine Zs rfl rfl rfl (fun _ => Zi (Zb rfl)) ?_
 refine Zs rfl rfl rfl (fun _ => Zxb (Zy rfl id) Zl) ?_
 refine Zs rfl rfl rfl (fun _ => Ye (Zy rfl id) (Zy rfl id)) ?_
 refine Zc rfl (fun _ => Yz (Zb rfl) (Zy rfl id)) ?_
 refine Zc rfl (fun _ => Zi (Zb rfl)) ?_
 refine Zs rfl rfl rfl (fun _ => Zi (Zb rfl)) ?_
 refine Zs rfl rfl rfl (fun _ => Yg (Zy rfl id) Zl) ?_
 refine Zc rfl (fun _ => Yz (Zb rfl) (Zy rfl id)) ?_
 refine Zc rfl (fun _ => Ze (Zb rfl)) ?_
 refine Zj [(2, _, _)] (Za rfl (Zd _)) ?_
 refine Zh (hK2 _ _ ?_)
 refine Yf (Yj rfl rfl ?_)
 exact ⟨rfl, g⟩
theorem rdig_ok (c : Int) (w : World) : Ret PP Xrb #[.int .u8 c] w fun v w' => v = .bool (digitB c) ∧ G w w' := by
 have g := G.refl w
 refine Ym (m := 9) Jaa rfl rfl [(0, True, _)] (Za rfl (Zd _)) ?_
 refine Zg fun K1 hK1 => ?_
 refine Zf [3] ?_
 refine Zc rfl (fun _ => Ze Zl) ?_
 refine Zh (hK1 _ _ ?_)
 refine Zg fun K2 hK2 => ?_
 refine Zf [3, 3, 3, 3, 3, 3, 3] ?_
 refine Zc rfl (fun _ => Zi (Zb rfl)) ?_
 refine Zc rfl (fun _ => Wla (Zb rfl) Zl) ?_
 refine Zc rfl (fun _ => Zi (Zb rfl)) ?_
 refine Zs rfl rfl rfl (fun _ => Zi (Zb rfl)) ?_
 refine Zs rfl rfl rfl (fun _ => Zxb (Zy rfl id) Zl) ?_
 refine Zc rfl (fun _ => Ye (Zb rfl) (Zy rfl id)) ?_
 refine Zc rfl (fun _ => Ze (Zb rfl)) ?_
 refine Zj [(2, _, _)] (Za rfl (Zd _)) ?_
 refine Zh (hK2 _ _ ?_)
 refine Yf (Yj rfl rfl ?_)
 exact ⟨rfl, g⟩
def alB (c : UInt8) : Bool := letterB c.toNat || digitB c.toNat
def nameB (s : List UInt8) : Bool := !(((decide (s = []) || decide ((32 : Int) < s.length)) || !letterB (cAt s 0)) || inB kws s) && (s.drop 1).all alB
theorem cAt_lt {s : List UInt8} {i : Nat} (h : i < s.length) : cAt s i = (s[i].toNat : Int) := by simp [cAt, List.getD_eq_getElem?_getD, List.getElem?_eq_getElem h]
theorem Yoa (s : List UInt8) (w : World) : Ret PP fn_r02_Name #[Str s] w fun v w' => v = .bool (nameB s) ∧ G w w' := by
 have g := G.refl w
 refine Ym (m := 39) func_r02_Name rfl rfl [(0, True, _)] (Za rfl (Zd _)) ?_
 refine Zg fun K1 hK1 => ?_
 refine Zf [3] ?_
 refine Zc rfl (fun _ => Ze Zl) ?_
 refine Zh (hK1 _ _ ?_)
 refine Zg fun K2 hK2 => ?_
 refine Zg fun K3 hK3 => ?_
 refine Zf [3, 3, 3, 3, 3, 3, 3, 3, 3, 3, 1, 3, 3, 3, 3, 1, 3] ?_
 refine Zc rfl (fun _ => Zi (Zb rfl)) ?_
 refine Zc rfl (fun _ => Yh (Zb rfl) Zl) ?_
 refine Zc rfl (fun _ => Zi (Zb rfl)) ?_
 refine Zs rfl rfl rfl (fun _ => Zi (Zb rfl)) ?_
 refine Zs rfl rfl rfl (fun _ => Wz Yv (Zy rfl id)) ?_
 refine Zs rfl rfl rfl (fun _ => Js (Zy rfl id) Zl) ?_
 refine Zc rfl (fun _ => Yz (Zb rfl) (Zy rfl id)) ?_
 refine Zc rfl (fun _ => Zi (Zb rfl)) ?_
 refine Zs rfl rfl rfl (fun _ => Zi (Zb rfl)) ?_
 refine Zs rfl rfl rfl (fun _ => Uf Yv (Zy rfl id) Zl (fun hc => by
 have h1 := hc.2; simp only [Bool.or_eq_false_iff, decide_eq_false_iff_not] at h1
 have : s.length ≠ 0 := fun h => h1.1 (List.length_eq_zero_iff.1 h)
 omega)) ?_
 refine Xb rfl rfl rfl (fun _ => (Zu Jj Yl (Zk (Zy rfl id) (Zn)) rfl)) (fun hc => rlet_ok _ _) (fun w14 g14 => ?_)
 have g := g.trans (g14)
 refine Zs rfl rfl rfl (fun _ => Ub (Zy rfl id)) ?_
 refine Zc rfl (fun _ => Yz (Zb rfl) (Zy rfl id)) ?_
 refine Zc rfl (fun _ => Zi (Zb rfl)) ?_
 refine Zs rfl rfl rfl (fun _ => Zi (Zb rfl)) ?_
 refine Xb rfl rfl rfl (fun _ => (Zu Qza Yl (Zk (Zy rfl id) (Zn)) rfl)) (fun hc => Uhb _ _) (fun w19 g19 => ?_)
 have g := g.trans (g19)
 refine Zc rfl (fun _ => Yz (Zb rfl) (Zy rfl id)) ?_
 refine Zj [(0, _, _), (2, _, _), (20, _, _)] (Za rfl (Za rfl (Za rfl (Zd _)))) ?_
 refine Zh (hK3 _ _ ?_)
 refine Zz (Zb rfl) (fun h1 => ?_) (fun h1 => ?_)
 ·(try simp only [bsimp] at h1)
  refine Zg fun K4 hK4 => ?_
  refine Zf [3] ?_
  refine Zc rfl (fun _ => Ze Zl) ?_
  refine Zj [(0, _, _), (2, _, _)] (Za rfl (Za rfl (Zd _))) ?_
  refine Zh (hK4 _ _ ?_)
  refine Yf (Yj rfl rfl ?_)
  refine ⟨congrArg Value.bool ?_, g⟩
  unfold nameB; rw [show (((decide (s = []) || decide ((32 : Int) < s.length)) || !letterB (cAt s 0)) || inB kws s) = true from h1]; rfl
 have hn : nameB s = (s.drop 1).all alB := by unfold nameB; rw [show (((decide (s = []) || decide ((32 : Int) < s.length)) || !letterB (cAt s 0)) || inB kws s) = false from h1]; rfl
 have hl32 : s.length ≤ 32 := by
  simp only [Bool.or_eq_false_iff, decide_eq_false_iff_not] at h1; omega
 refine Yq (hK2 _ _ ?_)
 refine Yi [(0, _, _), (2, _, _)] (Za rfl (Za rfl (Zd _))) ?_
 refine Zg fun K5 hK5 => ?_
 refine Zg fun K6 hK6 => ?_
 refine Zf [3] ?_
 refine Zc rfl (fun _ => Ze Zl) ?_
 refine Zh (hK6 _ _ ?_)
 refine Yp ?_
 refine Wv (fun (i : Nat) u1 => (1 ≤ i ∧ ∀ j, 1 ≤ j → (h : j < s.length) → j < i → alB s[j] = true) ∧ G w19 u1) [(0, True, _)] (fun (i : Nat) => [(3, True, .int .i64 i)]) (fun (i : Nat) => s.length - i) (1) ⟨⟨by omega, fun j h1 _ h2 => by omega⟩, G.refl _⟩ (Za rfl (Za rfl (Zd _))) ?_
 rintro i u1 ⟨hI1, gl1⟩
 have g := g.trans gl1
 refine Zg fun K7 hK7 => ?_
 refine Zg fun K8 hK8 => ?_
 refine Zf [3, 3, 3, 3] ?_
 refine Zc rfl (fun _ => Zi (Zb rfl)) ?_
 refine Zc rfl (fun _ => Zi (Zb rfl)) ?_
 refine Zc rfl (fun _ => Wz Yv (Zb rfl)) ?_
 refine Zc rfl (fun _ => Vh (Zb rfl) (Zb rfl)) ?_
 refine Zj [(0, _, _), (3, _, _), (24, _, _)] (Za rfl (Za rfl (Za rfl (Zd _)))) ?_
 refine Zh (hK8 _ _ ?_)
 refine Zz (Zb rfl) (fun h2 => ?_) (fun h2 => ?_)
 ·replace h2 : i < s.length := by simp only [decide_eq_true_eq] at h2; omega
  refine Yq (hK7 _ _ ?_)
  refine Yi [(0, _, _), (3, _, _)] (Za rfl (Za rfl (Zd _))) ?_
  refine Zg fun K9 hK9 => ?_
  refine Yp ?_
  refine Zg fun K10 hK10 => ?_
  refine Zf [3, 3, 3, 1, 3, 3, 3, 3, 3, 1, 3, 3] ?_
  refine Zc rfl (fun _ => Zi (Zb rfl)) ?_
  refine Zc rfl (fun _ => Zi (Zb rfl)) ?_
  refine Zc rfl (fun _ => Uf Yv (Zb rfl) (Zb rfl) (fun _ => by omega)) ?_
  refine Xe rfl (Zu Jj Yl (Zk (Zb rfl) (Zn)) rfl) (rlet_ok _ _) (fun w30 g30 => ?_)
  have g := g.trans (g30)
  try have gl1 := gl1.trans (g30)
  refine Zc rfl (fun _ => Ub (Zb rfl)) ?_
  refine Zc rfl (fun _ => Zi (Zb rfl)) ?_
  refine Zs rfl rfl rfl (fun _ => Zi (Zb rfl)) ?_
  refine Zs rfl rfl rfl (fun _ => Zi (Zb rfl)) ?_
  refine Zs rfl rfl rfl (fun _ => Uf Yv (Zy rfl id) (Zy rfl id) (fun hc => by omega)) ?_
  refine Xb rfl rfl rfl (fun _ => (Zu Zga Yl (Zk (Zy rfl id) (Zn)) rfl)) (fun hc => rdig_ok _ _) (fun w36 g36 => ?_)
  have g := g.trans (g36)
  try have gl1 := gl1.trans (g36)
  refine Zs rfl rfl rfl (fun _ => Ub (Zy rfl id)) ?_
  refine Zc rfl (fun _ => Ye (Zb rfl) (Zy rfl id)) ?_
  refine Zj [(0, _, _), (3, _, _), (38, _, _)] (Za rfl (Za rfl (Za rfl (Zd _)))) ?_
  refine Zh (hK10 _ _ ?_)
  refine Zz (Zb rfl) (fun h3 => ?_) (fun h3 => ?_)
  ·have h3' : alB s[i] = false := by
    rw [alB, ← cAt_lt h2]; simpa [cAt] using h3
   refine Zg fun K11 hK11 => ?_
   refine Zf [3] ?_
   refine Zc rfl (fun _ => Ze Zl) ?_
   refine Zj [(0, _, _), (2, _, _), (3, _, _)] (Za rfl (Za rfl (Za rfl (Zd _)))) ?_
   refine Zh (hK11 _ _ ?_)
   refine Yf (Yj rfl rfl ?_)
   refine ⟨congrArg Value.bool ?_, g⟩
   rw [hn, eq_comm, List.all_eq_false]
   exact ⟨s[i], List.mem_drop_iff_getElem.2 ⟨i - 1, by omega, by congr 1; omega⟩, by rw [h3']; simp⟩
  have h3' : alB s[i] = true := by
   rw [alB, ← cAt_lt h2]
   cases ha : letterB (cAt s i)
   ·cases hb : digitB (cAt s i)
    ·exfalso
     have h3 : (!letterB (cAt s i) && !digitB (cAt s i)) = false := h3
     rw [ha, hb] at h3; cases h3
    ·rfl
   ·rfl
  refine Yq (hK9 _ _ ?_)
  refine Yi [(0, _, _), (3, _, _)] (Za rfl (Za rfl (Zd _))) ?_
  refine Zf [3, 3, 3] ?_
  refine Zc rfl (fun _ => Zi (Zb rfl)) ?_
  refine Zc rfl (fun _ => Xq (Zb rfl) Zl (fun _ => by omega)) ?_
  refine Zc rfl (fun _ => Ze (Zb rfl)) ?_
  refine Zj [(3, _, _), (0, _, _)] (Za rfl (Za rfl (Zd _))) ?_
  refine Zh (fun a ha => ?_)
  refine ⟨i + 1, ha, ⟨⟨by omega, fun j h4 h5 h6 => ?_⟩, gl1⟩, by omega⟩
  by_cases e : j = i
  ·subst e; exact h3'
  ·exact hI1.2 j h4 h5 (by omega)
 replace h2 : s.length ≤ i := by simp only [decide_eq_false_iff_not] at h2; omega
 refine Wa rfl (hK5 _ _ ?_)
 refine Yi [] (Zd _) ?_
 refine Zg fun K12 hK12 => ?_
 refine Zf [3] ?_
 refine Zc rfl (fun _ => Ze Zl) ?_
 refine Zh (hK12 _ _ ?_)
 refine Yf (Yj rfl rfl ?_)
 refine ⟨congrArg Value.bool ?_, g⟩
 rw [hn, eq_comm, List.all_eq_true]
 intro x hx
 obtain ⟨j, hj, rfl⟩ := List.mem_drop_iff_getElem.1 hx
 exact hI1.2 _ (by omega) (by omega) (by omega)
/-! the same by the scanner -/
theorem letter_not {c : Int} (h : letterB c = true) : decide (c = 10) = false ∧ ((decide (c = 32) || decide (c = 9)) || decide (c = 13)) = false ∧ decide (c = 47) = false := by
 simp only [letterB, Bool.or_eq_true, Bool.and_eq_true, decide_eq_true_eq] at h
 simp only [Bool.or_eq_false_iff, decide_eq_false_iff_not]
 omega
theorem runN_full {q : Int → Bool} : ∀ {l : List UInt8}, (∀ c ∈ l, q c.toNat = true) → runN q l = l.length
 | [], _ => rfl
 | c :: l, h => by
  rw [runN, if_pos (h c (List.mem_cons_self ..)), runN_full fun x hx => h x (List.mem_cons_of_mem _ hx)]; rfl
theorem name_run {s : List UInt8} (h : nameB s = true) : s.length ≠ 0 ∧ s.length ≤ 32 ∧ letterB (cAt s 0) = true ∧ inB kws s = false ∧ runN isAlnum s = s.length := by
 unfold nameB at h
 simp only [Bool.and_eq_true, Bool.not_eq_true', Bool.or_eq_false_iff, decide_eq_false_iff_not, Bool.not_eq_false'] at h
 obtain ⟨⟨⟨⟨h1, h2⟩, h3⟩, h4⟩, h5⟩ := h
 refine ⟨fun e => h1 (List.length_eq_zero_iff.1 e), by omega, h3, h4, runN_full fun c hc => ?_⟩
 cases s with
 | nil => cases hc
 | cons a l =>
  rcases List.mem_cons.1 hc with rfl | hc
  ·have : letterB (c.toNat : Int) = true := h3
   rw [isAlnum, this]; rfl
  ·exact List.all_eq_true.1 h5 c hc
theorem pre_slash {l : List UInt8} (h : decide (cAt l 0 = 47) = false) : preB [47, 47] l = false := by
 cases l with
 | nil => rfl
 | cons a l =>
  have : ¬ (a.toNat : Int) = 47 := of_decide_eq_false h
  unfold preB
  rw [Bool.and_eq_false_iff]; right
  rw [decide_eq_false_iff_not]
  intro e
  rw [List.length_cons, List.take_succ_cons] at e
  injection e with e1 _
  subst e1
  exact this rfl
theorem name_scan {s : List UInt8} (h : nameB s = true) : scanF s = ([⟨1, s, 0⟩], 0, 0) := by
 obtain ⟨h0, h1, h2, h3, h4⟩ := name_run h
 obtain ⟨a1, a2, a3⟩ := letter_not h2
 have hN : nextF s 0 [] [] = (s.length, [⟨1, s, 0⟩], [], 0) := by
  unfold nextF
  rw [a1, a2, show s.drop 0 = s from rfl, pre_slash a3, h2, h4, decide_eq_false (by omega : ¬ (32 : Int) < (s.length : Nat)), List.take_of_length_le (Nat.le_refl _), wordK, h3]
  simp
 have hG : goF s s.length 0 [] [] = (s.length, [⟨1, s, 0⟩], [], 0) := by
  obtain ⟨m, hm⟩ : ∃ m, s.length = m + 1 := ⟨s.length - 1, by omega⟩
  rw [hm, goF, decide_eq_true (by omega : 0 < s.length), hN]
  simp only [cond_true, decide_true]
  cases m with
  | zero => rw [goF, hm]
  | succ m => rw [goF, decide_eq_false (by omega), cond_false, hm]
 rw [scanF, allF, decide_eq_false (by omega : ¬ (20000 : Int) < s.length), cond_false, hG]
 rfl
def NameTok (t : Tok) : Prop := t.kind = 1 → nameB t.text = true
theorem nextF_name {s : List UInt8} {p : Nat} {ts : List Tok} (cs : List Tok) (hp : p < s.length) (h : ∀ t ∈ ts, NameTok t) : ∀ t ∈ (nextF s p ts cs).2.1, NameTok t := by
 have hn : ∀ (l : List Tok) (t : Tok), (∀ t ∈ l, NameTok t) → NameTok t → ∀ u ∈ l ++ [t], NameTok u := by
  intro l t hl ht u hu
  rcases List.mem_append.1 hu with hu | hu
  ·exact hl u hu
  ·rw [List.mem_singleton.1 hu]; exact ht
 unfold nextF
 cases h1 : decide (cAt s p = 10)
 ·cases h2 : ((decide (cAt s p = 32) || decide (cAt s p = 9)) || decide (cAt s p = 13))
  ·cases h3 : preB [47, 47] (s.drop p)
   ·cases h4 : letterB (cAt s p)
    ·cases h7 : digitB (cAt s p)
     ·cases h8 : Nat.beq (Zja (s.drop p)) 0
      ·exact hn _ _ h (fun e => by simp at e)
      ·exact h
     ·cases h8 : badD s p (runN digitB (s.drop p))
      ·cases h9 : decide (valN 0 ((s.drop p).take (runN digitB (s.drop p))) < 9223372036854775808)
       ·exact h
       ·exact hn _ _ h (fun e => by simp at e)
      ·exact h
    ·cases h5 : decide ((32 : Int) < runN isAlnum (s.drop p))
     ·refine hn _ _ h (fun e => ?_)
      simp only at e ⊢
      have hq : isAlnum (cAt s p) = true := by rw [isAlnum, h4]; rfl
      have hpos := Zka hp hq
      have hfit := Jm isAlnum hp
      have hall := Zxc isAlnum (s.drop p)
      generalize hX : (s.drop p).take (runN isAlnum (s.drop p)) = x at e hall ⊢
      have hl : x.length = runN isAlnum (s.drop p) := by rw [← hX, List.length_take, List.length_drop]; omega
      have hk : inB kws x = false := by
       cases hk : inB kws x
       ·rfl
       ·rw [wordK, hk] at e; cases e
      have hc : cAt x 0 = cAt s p := by
       rw [← hX]
       unfold cAt
       simp [List.getD_eq_getElem?_getD, List.getElem?_take, show 0 < runN isAlnum (s.drop p) from hpos]
      have h5' := of_decide_eq_false h5
      unfold nameB
      rw [decide_eq_false (by omega : ¬ (32 : Int) < (x.length : Nat)), hc, h4, hk, decide_eq_false (by intro e0; rw [e0] at hl; simp at hl; omega)]
      simp only [Bool.not_true, Bool.or_false, Bool.not_false, Bool.true_and]
      rw [List.all_eq_true]
      intro c hc
      exact hall c (List.mem_of_mem_drop hc)
     ·exact h
   ·exact h
  ·exact h
 ·show ∀ t ∈ nlTs p ts, NameTok t
  intro t ht
  have : nlTs p ts = ts ∨ ∃ q, nlTs p ts = ts ++ [⟨4, [59], q⟩] := by
   unfold nlTs
   cases ts.getLast? with
   | none => exact .inl rfl
   | some u => simp only []; split <;> first | exact .inl rfl | exact .inr ⟨_, rfl⟩
  rcases this with e | ⟨q, e⟩
  ·rw [e] at ht; exact h t ht
  ·rw [e] at ht; exact hn _ _ h (fun e => by simp at e) t ht
theorem goF_name (s : List UInt8) : ∀ (f p : Nat) (ts cs : List Tok), (∀ t ∈ ts, NameTok t) → ∀ t ∈ (goF s f p ts cs).2.1, NameTok t
 | 0, _, _, _, h => h
 | f + 1, p, ts, cs, h => by
  rw [goF]
  cases hp : decide (p < s.length)
  ·exact h
  ·have hn := nextF_name (ts := ts) cs (of_decide_eq_true hp) h
   cases decide ((nextF s p ts cs).2.2.2 = 0)
   ·exact hn
   ·exact goF_name s f _ _ _ hn
theorem scanF_name (s : List UInt8) : ∀ t ∈ (scanF s).1, NameTok t := by
 rw [scanF, allF]
 cases decide ((20000 : Int) < s.length)
 ·simp only [cond_false]
  have := goF_name s s.length 0 [] [] (fun t ht => by cases ht)
  cases (!decide ((goF s s.length 0 [] []).2.2.2 = 0))
  ·exact this
  ·exact fun t ht => by cases ht
 ·exact fun t ht => by cases ht
def tok1 (l : List Tok) : Tok := l.getD 0 ⟨0, [], 0⟩
def nameP (s : List UInt8) : Bool := ((decide ((scanF s).2.2 = 0) && decide (((scanF s).1.length : Int) = 1)) && decide ((tok1 (scanF s).1).kind = 1)) && decide ((tok1 (scanF s).1).text = s)
theorem nameP_eq (s : List UInt8) : nameP s = nameB s := by
 cases h : nameB s
 ·rw [nameP, Bool.eq_false_iff]
  intro hp
  simp only [Bool.and_eq_true, decide_eq_true_eq] at hp
  obtain ⟨⟨⟨_, h2⟩, h3⟩, h4⟩ := hp
  have hm : tok1 (scanF s).1 ∈ (scanF s).1 := by
   cases hl : (scanF s).1 with
   | nil => rw [hl] at h2; simp at h2
   | cons a l => exact List.mem_cons_self ..
  have := scanF_name s _ hm h3
  rw [h4, h] at this; cases this
 ·rw [nameP, name_scan h]
  simp [tok1]
def pb (p : Option Addr) : Nat := match p with | some a => a.block | none => 0
def po (p : Option Addr) : Nat := match p with | some a => a.off | none => 0
def anyK : List Int → Int → Bool
 | [], _ => false
 | [a], k => decide (k = a)
 | a :: b :: l, k => decide (k = a) || anyK (b :: l) k
def anyS : List (List UInt8) → List UInt8 → Bool
 | [], _ => false
 | [a], k => decide (k = a)
 | a :: b :: l, k => decide (k = a) || anyS (b :: l) k
theorem Jma : ∀ (l : List Int) (k : Int), anyK l k = true ↔ k ∈ l
 | [], k => by simp [anyK]
 | [a], k => by simp [anyK]
 | a :: b :: l, k => by rw [anyK, Bool.or_eq_true, Jma (b :: l) k, decide_eq_true_eq, List.mem_cons (a := k) (b := a)]
theorem Ypa : ∀ (l : List (List UInt8)) (k : List UInt8), anyS l k = true ↔ k ∈ l
 | [], k => by simp [anyS]
 | [a], k => by simp [anyS]
 | a :: b :: l, k => by rw [anyS, Bool.or_eq_true, Ypa (b :: l) k, decide_eq_true_eq, List.mem_cons (a := k) (b := a)]
theorem anyK_false {l : List Int} {k : Int} (h : anyK l k = false) : ¬ k ∈ l := fun hm => by rw [(Jma l k).2 hm] at h; cases h
theorem tok1_row {w : World} {b o : Nat} {l : List Tok} (h : RowAt w b o (toksCells l)) (hl : 0 < l.length) : RowAt w b o (tokCells (tok1 l)) := by
 cases l with
 | nil => cases hl
 | cons t l =>
  have := h.part 0 3
  exact this
theorem Xc {P : Program} {n : Nat} {σ : List Ent} {c : Prop} {wb : World} {ty : TypeId} {t e z by_ : Nat} {x y : Operand} {p : Option Addr} {m q : Nat} {k : IntKind} {i : Int} (ht : tyElem P t = some (e, z, by_)) (h : Ev n σ c x (.slice p m q)) (h' : Ev n σ c y (.int k i)) (hi : c → 0 ≤ i ∧ i < m) (hp : c → p = some ⟨pb p, po p, none⟩) :
  Rd P n σ c wb (.indexAddr t x y) ty (.pointer (some ⟨pb p, po p + i.toNat * z, none⟩)) := fun d pos after gd a ha hc w1 hg =>
 Uc (P := P) (wb := wb) ht (Ev.to h fun hc => congrArg (fun p => Value.slice p m q) (hp hc)) h' hi d pos after gd a ha hc w1 hg
theorem toks_slice {base : Nat} {l : List Tok} {v : Value} {w : World} (h : Toks base l v w) : ∃ a c, v = .slice a l.length c ∧ (0 < l.length → a = some ⟨pb a, po a, none⟩ ∧ RowAt w (pb a) (po a) (tokCells (tok1 l))) := by
 obtain ⟨a, c, rfl, _⟩ := own_sl h
 refine ⟨a, c, rfl, fun h0 => ?_⟩
 obtain ⟨b, c', hv, _, hR, _⟩ := Qyb h h0
 injection hv with hv _ _
 subst hv
 exact ⟨rfl, tok1_row hR h0⟩
end Go.Rk
namespace Go.Rk
open Go Go.RowKit Go.ChangeShapes Go.WideShapes
end Go.Rk
