/- Merged texts of one road: ScanC, ScanD, LayP, ScanP, ScanE, ScanF, Tree, Name, Post, Yf, Rng, Wgt, Open, RowF, Own, Gt, TypA, TypB, TypC, RefA, RefB, RefC, TypF, TypG, TypD, TypE, Fn, SynA, SynB. Conditions: each text's own. -/
import Derived.Test.YtgfkioikloeaiaaGreatDoorA01
import Derived.Shelf.LaysC
import Derived.Shelf.Strconv.ParseIntPublic10
import Derived.KernelRfl
import Derived.ChangeSame
import Derived.Below
import Derived.Test.YtgfkioikloeaiaaGreatDoorCards
import Derived.Test.YtgfkioikloeaiaaGreatDoorTie
import Derived.WalkKit
import Derived.ProofKit
import Derived.OpenShut
import Derived.Deep.DeepHandedRow
import Derived.Deep.DeepWitnessRowRef
import Derived.Lib.LaidTab
import Derived.Stop.LaidErr
import Derived.ShutString
import Derived.ChangeMaps5
import Derived.Test.YtgfkioikloeaiaaGreatDoorRows
import Derived.Deep.Slices
import Derived.Carry
set_option linter.unusedSimpArgs false
set_option linter.unusedVariables false
namespace Go.Rk
open Go.Proofs
open Go Go.RowKit
structure SA (base b : Nat) (s : List UInt8) (p : Nat) (ts cs : List Tok) (ta : Option Addr) (tc : Nat) (ca : Option Addr) (cc : Nat) (w : World) : Prop where
 B : Blk w b Yoa [Str s, .int .i64 p, .slice ta ts.length tc, .slice ca cs.length cc]
 hb : base ≤ b
 ht : w.ownsRow base Yha 3 (.slice ta ts.length tc) ts.length (toksCells ts)
 hc : w.ownsRow base Yha 3 (.slice ca cs.length cc) cs.length (toksCells cs)
 n1 : (Value.slice ta ts.length tc).ownBlock ≠ some b
 n2 : (Value.slice ca cs.length cc).ownBlock ≠ some b
 n3 : ∀ k, (Value.slice ta ts.length tc).ownBlock = some k → (Value.slice ca cs.length cc).ownBlock ≠ some k
theorem SA.grow {base b : Nat} {s : List UInt8} {p : Nat} {ts cs : List Tok} {ta : Option Addr} {tc : Nat} {ca : Option Addr} {cc : Nat} {w w1 : World} (h : SA base b s p ts cs ta tc ca cc w) (g : G w w1) : SA base b s p ts cs ta tc ca cc w1 :=
 { h with B := h.B.grow g, ht := Us h.ht g, hc := Us h.hc g }
theorem SA.scn {base b : Nat} {s : List UInt8} {p : Nat} {ts cs : List Tok} {ta : Option Addr} {tc : Nat} {ca : Option Addr} {cc : Nat} {w : World} (h : SA base b s p ts cs ta tc ca cc w) (k1 : ts.length ≤ p) (k2 : cs.length ≤ p) (k3 : p ≤ s.length) (k4 : s.length ≤ 20000) : Scn base b s p ts cs w :=
 ⟨ta, tc, ca, cc, h.B, h.hb, h.ht, h.hc, h.n1, h.n2, h.n3, k1, k2, k3, k4⟩
theorem Scn.sa {base b : Nat} {s : List UInt8} {p : Nat} {ts cs : List Tok} {w : World} (h : Scn base b s p ts cs w) : ∃ ta tc ca cc, SA base b s p ts cs ta tc ca cc w ∧ ts.length ≤ p ∧ cs.length ≤ p ∧ p ≤ s.length ∧ s.length ≤ 20000 := by
 obtain ⟨ta, tc, ca, cc, hB, hb0, ht, hc, n1, n2, n3, k1, k2, k3, k4⟩ := h
 exact ⟨ta, tc, ca, cc, ⟨hB, hb0, ht, hc, n1, n2, n3⟩, k1, k2, k3, k4⟩
theorem SA.base_le {base b : Nat} {s : List UInt8} {p : Nat} {ts cs : List Tok} {ta : Option Addr} {tc : Nat} {ca : Option Addr} {cc : Nat} {w : World} (h : SA base b s p ts cs ta tc ca cc w) : base ≤ w.heap.size := by have := h.hb; have := h.B.lt; omega
theorem SA.setp {base b : Nat} {s : List UInt8} {p q : Nat} {ts cs : List Tok} {ta : Option Addr} {tc : Nat} {ca : Option Addr} {cc : Nat} {w w1 : World} (h : SA base b s p ts cs ta tc ca cc w) (hg : w.grownBy w1 (some b))
  (hB : Blk w1 b Yoa [Str s, .int .i64 q, .slice ta ts.length tc, .slice ca cs.length cc]) : SA base b s q ts cs ta tc ca cc w1 :=
 { h with B := hB, ht := Vy h.ht hg (.inr h.n1), hc := Vy h.hc hg (.inr h.n2) }
theorem Wfb {base b : Nat} {a wk w1 w2 : World} (hb : Below base a wk) (g : G wk w1) (hg : w1.grownBy w2 (some b)) (hz : base ≤ wk.heap.size) (h : base ≤ b) : Below base a w2 := by
 have := g.size
 exact Zsa (hb.trans (Xca g hz)) hg (by omega) (fun k hk => by injection hk with hk; omega)
theorem Scn.grow {base b : Nat} {s : List UInt8} {p : Nat} {ts cs : List Tok} {w w1 : World} (h : Scn base b s p ts cs w) (g : G w w1) : Scn base b s p ts cs w1 := by
 obtain ⟨ta, tc, ca, cc, h, k1, k2, k3, k4⟩ := h.sa
 exact (h.grow g).scn k1 k2 k3 k4
theorem SA.putT {base b : Nat} {s : List UInt8} {p : Nat} {ts cs : List Tok} {ta : Option Addr} {tc : Nat} {ca : Option Addr} {cc : Nat} {w w1 w2 : World} {ta' : Option Addr} {tc' : Nat} {t : Tok} (h : SA base b s p ts cs ta tc ca cc w)
  (h1 : w1.ownsRow base Yha 3 (.slice ta' (ts.length + 1) tc') (ts.length + 1) (toksCells ts ++ tokCells t)) (hg : w.grownBy w1 (Value.slice ta ts.length tc).ownBlock)
  (hat : (Value.slice ta' (ts.length + 1) tc').ownBlock = (Value.slice ta ts.length tc).ownBlock ∨ (Value.slice ta' (ts.length + 1) tc').ownBlock = some w.heap.size) (hg2 : w1.grownBy w2 (some b))
  (hB : Blk w2 b Yoa [Str s, .int .i64 p, .slice ta' (ts.length + 1) tc', .slice ca cs.length cc]) : SA base b s p (ts ++ [t]) cs ta' tc' ca cc w2 := by
 have n1 := Zoc h.B.lt h.n1 hat
 have hl : (ts ++ [t]).length = ts.length + 1 := by simp
 have hc := Zpc h.hc h.n3 hg
 refine ⟨by rw [hl]; exact hB, h.hb, ?_, Vy hc hg2 (.inr h.n2), by rw [hl]; exact n1, h.n2, ?_⟩
 ·rw [hl, Wpa]; exact Vy h1 hg2 (.inr n1)
 ·rw [hl]; exact Yob h.hc h.n3 hat
theorem SA.putC {base b : Nat} {s : List UInt8} {p : Nat} {ts cs : List Tok} {ta : Option Addr} {tc : Nat} {ca : Option Addr} {cc : Nat} {w w1 w2 : World} {ca' : Option Addr} {cc' : Nat} {t : Tok} (h : SA base b s p ts cs ta tc ca cc w)
  (h1 : w1.ownsRow base Yha 3 (.slice ca' (cs.length + 1) cc') (cs.length + 1) (toksCells cs ++ tokCells t)) (hg : w.grownBy w1 (Value.slice ca cs.length cc).ownBlock)
  (hat : (Value.slice ca' (cs.length + 1) cc').ownBlock = (Value.slice ca cs.length cc).ownBlock ∨ (Value.slice ca' (cs.length + 1) cc').ownBlock = some w.heap.size) (hg2 : w1.grownBy w2 (some b))
  (hB : Blk w2 b Yoa [Str s, .int .i64 p, .slice ta ts.length tc, .slice ca' (cs.length + 1) cc']) : SA base b s p ts (cs ++ [t]) ta tc ca' cc' w2 := by
 have n2 := Zoc h.B.lt h.n2 hat
 have hl : (cs ++ [t]).length = cs.length + 1 := by simp
 have n3' : ∀ k, (Value.slice ca cs.length cc).ownBlock = some k → (Value.slice ta ts.length tc).ownBlock ≠ some k := fun k hk he => h.n3 k he hk
 have ht := Zpc h.ht n3' hg
 refine ⟨by rw [hl]; exact hB, h.hb, Vy ht hg2 (.inr h.n1), ?_, h.n1, by rw [hl]; exact n2, ?_⟩
 ·rw [hl, Wpa]; exact Vy h1 hg2 (.inr n2)
 ·rw [hl]; exact fun k hk he => Yob h.ht n3' hat k he hk
def Xde (t : Tok) : Bool := (decide (t.kind = 1) || decide (t.kind = 2)) || inB endw t.text
def nlTs (p : Nat) (ts : List Tok) : List Tok := match ts.getLast? with
 | some t => if Xde t = true then ts ++ [⟨4, [59], p⟩] else ts
 | none => ts
theorem Qwe {w : World} {b : Nat} {ts0 : List Tok} {t : Tok} (h : RowAt w b 0 (toksCells (ts0 ++ [t]))) : RowAt w b (0 + (((ts0 ++ [t]).length : Nat) - 1 : Int).toNat * 3) (tokCells t) := by
 have e : (((ts0 ++ [t]).length : Nat) - 1 : Int).toNat = ts0.length := by simp
 have k := h.part (ts0.length * 3) 3
 rw [e]
 have e2 : ((toksCells (ts0 ++ [t])).drop (ts0.length * 3)).take 3 = tokCells t := by
  rw [Wpa, List.drop_append_of_le_length (by rw [Zib]; exact Nat.le_refl _), List.drop_of_length_le (by rw [Zib]; exact Nat.le_refl _)]
  rfl
 rw [e2] at k; exact k
theorem Zbe (base b : Nat) (s : List UInt8) (p : Nat) (ts cs : List Tok) (w : World) (hs : Scn base b s p ts cs w) (h2 : p < s.length) :
  Ret PP Zcb #[.pointer (some ⟨b, 0, none⟩)] w fun v w' => v = .tuple #[] ∧ Scn base b s (p + 1) (nlTs p ts) cs w' ∧ Below base w w' := by
 obtain ⟨ta, tc, ca, cc, hs, k1, k2, k3, k4⟩ := hs.sa
 have g := G.refl w
 have hb : Below base w w := Below.refl _ _
 refine Yp (m := 53) Qoa J J [(0, True, _)] (Za J (Zj _)) ?_
 refine Ze (Ze (Zg (Zt J (Ui J (Zx Jg J (Yg Zda J (by first | exact (hs.grow g).B.at_ J) (Qu Qe J (Zp J (Zb (kq (Ze (Zg (Zt J (Ved J J (Zb (kq (Yv J (fun h1 => ?_) (fun h1 => ?_))))))))))))))))))
 ·have hp : 0 < ts.length := by simp only [decide_eq_true_eq] at h1; omega
  obtain ⟨ts0, t, ets⟩ : ∃ ts0 t, ts = ts0 ++ [t] := by
   rcases List.eq_nil_or_concat ts with e | ⟨l, x, e⟩
   ·rw [e] at hp; cases hp
   ·exact ⟨l, x, by simpa using e⟩
  subst ets
  obtain ⟨bt, ct, ev, _, hrow, _⟩ := Qqa hs.ht hp
  injection ev with e1 e2 e3
  subst e1
  have hrow' := Qwe hrow
  have hne : nlTs p (ts0 ++ [t]) = if Xde t = true then (ts0 ++ [t]) ++ [⟨4, [59], p⟩] else ts0 ++ [t] := by simp [nlTs]
  refine Ze (Zg (Zt J (Ui J (Zx Jg J (Yg Zda J (by first | exact (hs.grow g).B.at_ J) (Zt J (Yi J (fun _ => Xxa (Zk J) Xy (fun _ => by omega)) (Jta Qe J J (by omega) (Yk Jmc J J (hrow') (Yh J Jq J ?_))))))))))
  intro b3 w3 N3
  have l3 := N3.ge g
  have g := g.trans N3.g
  have E := (Wo _).new N3
  refine Yt Xkd J J J E.g0 ?_
  intro wS1 hgS1 _ BS
  replace E := E.s0 hgS1 BS
  have g := Zw g hgS1 (by omega)
  refine Zb (kq (Ze (Zg (Zx Qea J (Yg Zu J (E.g0.at_ J) (Xt J J (Zt J (Zn J J J (fun _ => Zv Qea (Zk J)) (Yj J J J (Ye Zu (Zq J id) (fun _ => E.g0.at_ J)) (Zn J J J (fun _ => Vt (Zq J id) Xy) (Yi J (fun _ => Xh (Zk J) (Zq J id)) (Zt J (Zn J J J (fun _ => Zv Web (Zk J)) (Yj J J J (Ye Yr (Zq J id) (fun _ => E.g0.at_ J)) (We J J J (fun _ => (Zo Uac Yo (Xf (Zq J id) (Xw)) J)) (fun hc => Vfe _ _) (fun w30 g30 => ?_))))))))))))))))
  have g := g.trans g30
  replace E := E.grow g30
  refine Yi J (fun _ => Xh (Zk J) (Zq J id)) (Zb (kq (Yv J (fun h2 => ?_) (fun h2 => ?_))))
  ·rw [if_pos (show Xde t = true from h2)] at hne
   have hl : (nlTs p (ts0 ++ [t])).length ≤ p + 1 := by rw [hne, List.length_append]; exact Nat.succ_le_succ k1
   refine Wr [3, 3, 3, 3, 0, 3, 3, 3, 0, 3, 1, 2, 3, 3, 2] [true, true, true, true, true, true, true, true, true, true, true, true, true, true, true] [0, 0, 2, 6, 14, 0, 32, 96, 224, 480, 992, 2046, 4095, 8191, 16383] mix (by kernel_rfl) ?_
   have g := gdr g
   replace E := E.dr
   refine Zt J (Zt J (Ui J (Zx Jg J (Yg Zda J (by first | exact (hs.grow g).B.at_ J | exact E.g0.at_ J | exact E.g0.row) (Zt J (Ui J (Zx Xn J (Yg Zu J (by first | exact (hs.grow g).B.at_ J | exact E.g0.at_ J | exact E.g0.row) (Uc Jq Ymb (pqc J (pqc J (pqc J pq0))) J J (Yb _ J Qe Jq (pqc J pq0) J J ?_))))))))))
   intro b42 w42 N42
   have l42 := N42.ge g
   have g := g.trans N42.g
   replace E := E.new N42
   have hb := hb.trans (Xca g hs.base_le)
   have hs := hs.grow g
   have hz0 := hs.base_le
   refine Ysa J Qe Jq J (by decide) (Zk J) hs.ht (Zk J) J N42.blk.row J (by simp only [maxLen]; omega) (by omega) (by omega) ?_
   intro ta' tc' w43 ht' hg43 hat
   have hB := hs.B.keep hg43 (Ne.symm hs.n1)
   have hz := hg43.size
   refine Ui J (Zx Jg J (Ww J Vva (Zk J) (Zk J) J J hB J J ?_))
   intro w44 hg44 hz44 hB
   have hb := Zsa (Zsa hb hg43 hs.base_le (fun k hk => (hs.ht.lt k hk).1)) hg44 (by have := hs.base_le; omega) (fun k hk => by injection hk with hk; have := hs.hb; omega)
   have hs := hs.putT (t := ⟨4, [59], p⟩) ht' hg43 hat hg44 hB
   have g := G.refl w44
   refine Zb (kq (Zg (Zt J (Ui J (Zx Xn J (Yg Zu J (by first | exact (hs.grow g).B.at_ J | exact E.g1.at_ J | exact E.g1.row | exact E.g0.at_ J | exact E.g0.row) (Qv J J (by omega) (Ui J (Zx Xn J (Ww J Vb (Zk J) (Zk J) J J (hs.grow g).B J J ?_))))))))))
   intro w52 hg52 hz52 hB
   have hb := Wfb hb g hg52 hs.base_le hs.hb
   have hs := (hs.grow g).setp (q := p + 1) hg52 hB
   refine Zb (Xra J ?_)
   refine ⟨rfl, ?_, hb⟩
   rw [hne] at hl ⊢
   exact hs.scn hl (by omega) (by omega) k4
  rw [if_neg (by intro h; rw [Xde, h2] at h; cases h)] at hne
  have hl : (nlTs p (ts0 ++ [t])).length ≤ p + 1 := by rw [hne]; omega
  refine Yc (kq (Zg (Zt J (Ui J (Zx Xn J (Yg Zu J (by first | exact (hs.grow g).B.at_ J | exact E.g0.at_ J | exact E.g0.row) (Qv J J (by omega) (Ui J (Zx Xn J (Ww J Vb (Zk J) (Zk J) J J (hs.grow g).B J J ?_))))))))))
  intro w52 hg52 hz52 hB
  have hb := Wfb hb g hg52 hs.base_le hs.hb
  have hs := (hs.grow g).setp (q := p + 1) hg52 hB
  refine Zb (Xra J ?_)
  refine ⟨rfl, ?_, hb⟩
  rw [hne] at hl ⊢
  exact hs.scn hl (by omega) (by omega) k4
 have hp : ts = [] := List.eq_nil_of_length_eq_zero (by simp only [decide_eq_false_iff_not] at h1; omega)
 have hne : nlTs p ts = ts := by rw [hp]; rfl
 have hl : (nlTs p ts).length ≤ p + 1 := by rw [hne]; omega
 refine Yc (kq (Zg (Zt J (Ui J (Zx Xn J (Yg Zu J (by first | exact (hs.grow g).B.at_ J) (Qv J J (by omega) (Ui J (Zx Xn J (Ww J Vb (Zk J) (Zk J) J J (hs.grow g).B J J ?_))))))))))
 intro w52 hg52 hz52 hB
 have hb := Wfb hb g hg52 hs.base_le hs.hb
 have hs := (hs.grow g).setp (q := p + 1) hg52 hB
 refine Zb (Xra J ?_)
 refine ⟨rfl, ?_, hb⟩
 rw [hne] at hl ⊢
 exact hs.scn hl (by omega) (by omega) k4
def runN (q : Int → Bool) : List UInt8 → Nat
 | [] => 0
 | c :: l => if q c.toNat = true then runN q l + 1 else 0
theorem Jyc {q : Int → Bool} {s : List UInt8} {k : Nat} (h : k < s.length) (hq : q (s.getD k 0).toNat = true) : runN q (s.drop k) = runN q (s.drop (k + 1)) + 1 := by
 rw [List.drop_eq_getElem_cons h, runN, if_pos (by simpa [List.getD_eq_getElem?_getD, List.getElem?_eq_getElem h] using hq)]
theorem Vge {q : Int → Bool} {s : List UInt8} {k : Nat} (h : k < s.length → q (s.getD k 0).toNat = false) : runN q (s.drop k) = 0 := by
 by_cases hk : k < s.length
 ·rw [List.drop_eq_getElem_cons hk, runN, if_neg]
  have := h hk
  simp [List.getD_eq_getElem?_getD, List.getElem?_eq_getElem hk] at this
  simp [this]
 ·rw [List.drop_of_length_le (by omega)]; rfl
theorem Wbf (q : Int → Bool) (l : List UInt8) : runN q l ≤ l.length := by
 induction l with
 | nil => exact Nat.le_refl _
 | cons c l ih => rw [runN]; split <;> simp <;> omega
theorem Zce (base b : Nat) (s : List UInt8) (p : Nat) (ts cs : List Tok) (w : World) (hs : Scn base b s p ts cs w) (f : Nat) (q : Int → Bool) (hgo : goFn PP f = true) (hf : ∀ c w, Ret PP f #[.int .u8 c] w fun v w' => v = .bool (q c) ∧ G w w') :
  Ret PP Vzb #[.pointer (some ⟨b, 0, none⟩), .func (.func f) #[] #[]] w fun v w' => v = .int .i64 (runN q (s.drop p)) ∧ G w w' := by
 obtain ⟨ta, tc, ca, cc, hs, k1, k2, k3, k4⟩ := hs.sa
 have g := G.refl w
 refine Yp (m := 36) Xlb J J [(0, True, _), (1, True, _)] (Za J (Za J (Zj _))) ?_
 refine Ze (Zg (Zp J (Zb (kq (Ze (Zg (Zp J (Zb (kq (Ze (Yu (Qmb (fun (n : Nat) u => p + n ≤ s.length ∧ runN q (s.drop p) = n + runN q (s.drop (p + n)) ∧ G w u) (fun n => [(0, True, .pointer (some ⟨b, 0, none⟩)), (1, True, .func (.func f) #[] #[]), (5, True, .int .i64 n)]) (fun n => s.length - n) 0 ⟨by omega, by simp, g⟩ (Za J (Za J (Za J (Zj _)))) ?_))))))))))))
 rintro n u ⟨hn, he, g⟩
 refine Ze (Ze (Wr [3, 3, 3, 0, 3, 3, 3, 3, 3, 0, 3, 3, 3, 3, 3, 3, 3, 0, 3, 3, 3, 0, 3, 3, 3, 1, 3] [true, true, true, true, true, true, true, true, true, true, true, true, true, true, true, true, true, true, true, true, true, true, true, true, true, true, true] [0, 1, 3, 7, 0, 31, 0, 64, 192, 448, 960, 2047, 4095, 8191, 8191, 24575, 57343, 122879, 8191, 270335, 794623, 1843199, 8191, 8134655, 16769023, 33554431, 67108863] mix (by kernel_rfl) ?_))
 have g := gdr g
 refine Zt J (Ui J (Zx Xn J (Yg Zu J (by first | exact (hs.grow g).B.at_ J) (Zt J (Qv J J (by omega) (Zt J (Ui J (Zx Um J (Yg Yr J (by first | exact (hs.grow g).B.at_ J) (Yi J (fun _ => Vha Ue (Zk J)) (Zfa J J (Zt J (Zn J J J (fun _ => Yl (Zk J)) (Zn J J J (fun _ => Yl (Zk J)) (Zn J J J (fun _ => Jl (Zq J id)) (?_))))))))))))))))
 refine Zn J J J (fun _ => Zv Um (Zq J id)) (Yj J J J (Ye Yr (Zq J id) (fun _ => by first | exact (hs.grow g).B.at_ J)) (Zn J J J (fun _ => Yl (Zk J)) (Zn J J J (fun _ => Jl (Zq J id)) (Zn J J J (fun _ => Zv Xn (Zq J id)) (Yj J J J (Ye Zu (Zq J id) (fun _ => by first | exact (hs.grow g).B.at_ J)) (Zn J J J (fun _ => Yl (Zk J)) (Zn J J J (fun _ => Ygd (Zq J id) (Zq J id) (fun _ => by omega)) (Zn J J J (fun _ => Vdb Ue (Zq J id) (Zq J id) (fun hc => by have := of_decide_eq_true hc.2; omega)) (We J J J (fun _ => (Zo hgo (Zq J id) (Xf (Zq J id) (Xw)) J)) (fun hc => hf _ _) (fun w31 g31 => ?_))))))))))
 have g := g.trans g31
 refine Yi J (fun _ => Zz (Zk J) (Zq J id)) (Zb (kq (Yv J (fun h1 => ?_) (fun h1 => ?_))))
 ·simp only [Bool.and_eq_true, decide_eq_true_eq] at h1
  obtain ⟨h1, h2⟩ := h1
  have e : ((p : Int) + n).toNat = p + n := by omega
  rw [e] at h2
  have hst := Jyc (by omega) h2
  refine Yc (kq (Yu (Zg (Zt J (Qv J J (by omega) (Zp J (Wh [(0, _, _), (1, _, _), (5, _, _)] (Za J (Za J (Za J (Zj _)))) (Zb (fun a ha => ?_)))))))))
  exact ⟨n + 1, ha, ⟨by omega, by rw [he, hst, Nat.add_assoc p n 1]; omega, g⟩, by omega⟩
 have hst : runN q (s.drop (p + n)) = 0 := Vge fun hk => by
  have e : ((p : Int) + n).toNat = p + n := by omega
  rw [e, Yfg (by omega : (p : Int) + n < s.length), Bool.true_and] at h1
  exact h1
 refine Vq J (kq (Ze (Zg (Zt J (Zp J (Zb (kq (Zr (Yx J J ?_)))))))))
 refine ⟨?_, g⟩
 rw [he, hst]; rfl
end Go.Rk
namespace Go.Rk
open Go.Proofs
open Go Go.Shelf Go.RowKit
def Xpd : Go.Shelf.Ren := ⟨fun | 174 => 163 | 247 => 174 | 245 => 175 | 287 => 179 | 279 => 180 | 280 => 181 | 281 => 182 | 282 => 183 | 321 => 184 | 322 => 185 | 316 => 186 | 171 => 188 | 205 => 187 | 243 => 189 | 246 => 190 | 283 => 191 | 284 => 192 | 285 => 193 | 286 => 194 | 129 => 196 | 317 => 195 | 318 => 197 | 319 => 198 | 320 => 199 | 337 => 200 | 338 => 201 | n => n, fun | 9 => 9 | 3 => 3 | 2 => 2 | 75 => 135 | 85 => 136 | 4 => 4 | 167 => 152 | 5 => 5 | 53 => 129 | 175 => 153 | 46 => 155 | 168 => 156 | 37 => 160 | 0 => 0 | 210 => 162 | 21 => 21 | 127 => 164 | 145 => 167 | 143 => 165 | 171 => 169 | 173 => 172 | 212 => 176 | 51 => 177 | 20 => 20 | 213 => 178 | 232 => 181 | 233 => 182 | 80 => 98 | n => n, fun | 15 => 2 | 16 => 3 | 17 => 4 | 18 => 5 | 19 => 6 | n => n⟩
theorem Vxd : Go.Proofs.LaysC.n174 PP Xpd := {
 mixed := by kernel_rfl
 f129 := Tryz.func196.trans (congrArg some (by kernel_rfl))
 f171 := Tryz.func188.trans (congrArg some (by kernel_rfl))
 f174 := Tryz.func163.trans (congrArg some (by kernel_rfl))
 f205 := Tryz.func187.trans (congrArg some (by kernel_rfl))
 f243 := Tryz.func189.trans (congrArg some (by kernel_rfl))
 f245 := Tryz.func175.trans (congrArg some (by kernel_rfl))
 f246 := Tryz.func190.trans (congrArg some (by kernel_rfl))
 f247 := Tryz.func174.trans (congrArg some (by kernel_rfl))
 f279 := Tryz.func180.trans (congrArg some (by kernel_rfl))
 f280 := Tryz.func181.trans (congrArg some (by kernel_rfl))
 f281 := Tryz.func182.trans (congrArg some (by kernel_rfl))
 f282 := Tryz.func183.trans (congrArg some (by kernel_rfl))
 f283 := Tryz.func191.trans (congrArg some (by kernel_rfl))
 f284 := Tryz.func192.trans (congrArg some (by kernel_rfl))
 f285 := Tryz.func193.trans (congrArg some (by kernel_rfl))
 f286 := Tryz.func194.trans (congrArg some (by kernel_rfl))
 f287 := Tryz.func179.trans (congrArg some (by kernel_rfl))
 f316 := Tryz.func186.trans (congrArg some (by kernel_rfl))
 f317 := Tryz.func195.trans (congrArg some (by kernel_rfl))
 f318 := Tryz.func197.trans (congrArg some (by kernel_rfl))
 f319 := Tryz.func198.trans (congrArg some (by kernel_rfl))
 f320 := Tryz.func199.trans (congrArg some (by kernel_rfl))
 f321 := Tryz.func184.trans (congrArg some (by kernel_rfl))
 f322 := Tryz.func185.trans (congrArg some (by kernel_rfl))
 f337 := Tryz.func200.trans (congrArg some (by kernel_rfl))
 f338 := Tryz.func201.trans (congrArg some (by kernel_rfl))
 t0 := Tryz.underlying0
 a0 := Tryz.isAgg0
 z0 := Tryz.sizeOf0
 v0 := Tryz.zeroValue0
 t2 := Tryz.underlying2
 a2 := Tryz.isAgg2
 z2 := Tryz.sizeOf2
 v2 := Tryz.zeroValue2
 t3 := Tryz.underlying3
 a3 := Tryz.isAgg3
 z3 := Tryz.sizeOf3
 v3 := Tryz.zeroValue3
 t4 := Tryz.underlying4
 a4 := Tryz.isAgg4
 z4 := Tryz.sizeOf4
 v4 := Tryz.zeroValue4
 t5 := Tryz.underlying5
 a5 := Tryz.isAgg5
 z5 := Tryz.sizeOf5
 v5 := Tryz.zeroValue5
 t9 := Tryz.underlying9
 a9 := Tryz.isAgg9
 z9 := Tryz.sizeOf9
 v9 := Tryz.zeroValue9
 t20 := Tryz.underlying20
 a20 := Tryz.isAgg20
 z20 := Tryz.sizeOf20
 v20 := Tryz.zeroValue20
 t21 := Tryz.underlying21
 a21 := Tryz.isAgg21
 z21 := Tryz.sizeOf21
 v21 := Tryz.zeroValue21
 t37 := Tryz.underlying160
 a37 := Tryz.isAgg160
 z37 := Tryz.sizeOf160
 v37 := Tryz.zeroValue160
 t46 := Tryz.underlying155
 a46 := Tryz.isAgg155
 z46 := Tryz.sizeOf155
 v46 := Tryz.zeroValue155
 t51 := Tryz.underlying177
 a51 := Tryz.isAgg177
 z51 := Tryz.sizeOf177
 v51 := Tryz.zeroValue177
 t53 := Tryz.underlying129
 a53 := Tryz.isAgg129
 z53 := Tryz.sizeOf129
 v53 := Tryz.zeroValue129
 t75 := Tryz.underlying135
 a75 := Tryz.isAgg135
 z75 := Tryz.sizeOf135
 v75 := Tryz.zeroValue135
 t85 := Tryz.underlying136
 a85 := Tryz.isAgg136
 z85 := Tryz.sizeOf136
 v85 := Tryz.zeroValue136
 t127 := Tryz.underlying164
 a127 := Tryz.isAgg164
 z127 := Tryz.sizeOf164
 v127 := Tryz.zeroValue164
 t143 := Tryz.underlying165
 a143 := Tryz.isAgg165
 z143 := Tryz.sizeOf165
 v143 := Tryz.zeroValue165
 t145 := Tryz.underlying167
 a145 := Tryz.isAgg167
 z145 := Tryz.sizeOf167
 v145 := Tryz.zeroValue167
 t167 := Tryz.underlying152
 a167 := Tryz.isAgg152
 z167 := Tryz.sizeOf152
 v167 := Tryz.zeroValue152
 t168 := Tryz.underlying156
 a168 := Tryz.isAgg156
 z168 := Tryz.sizeOf156
 v168 := Tryz.zeroValue156
 t171 := Tryz.underlying169
 a171 := Tryz.isAgg169
 z171 := Tryz.sizeOf169
 v171 := Tryz.zeroValue169
 t173 := Tryz.underlying172
 a173 := Tryz.isAgg172
 z173 := Tryz.sizeOf172
 v173 := Tryz.zeroValue172
 t175 := Tryz.underlying153
 a175 := Tryz.isAgg153
 z175 := Tryz.sizeOf153
 v175 := Tryz.zeroValue153
 t210 := Tryz.underlying162
 a210 := Tryz.isAgg162
 z210 := Tryz.sizeOf162
 v210 := Tryz.zeroValue162
 t212 := Tryz.underlying176
 a212 := Tryz.isAgg176
 z212 := Tryz.sizeOf176
 v212 := Tryz.zeroValue176
 t213 := Tryz.underlying178
 a213 := Tryz.isAgg178
 z213 := Tryz.sizeOf178
 t232 := Tryz.underlying181
 a232 := Tryz.isAgg181
 z232 := Tryz.sizeOf181
 v232 := Tryz.zeroValue181
 t233 := Tryz.underlying182
 a233 := Tryz.isAgg182
 z233 := Tryz.sizeOf182
 v233 := Tryz.zeroValue182
 g15 := by kernel_rfl
 g16 := by kernel_rfl
 g17 := by kernel_rfl
 g18 := by kernel_rfl
 g19 := by kernel_rfl
 t80 := Tryz.underlying98
 a80 := Tryz.isAgg98
 z80 := Tryz.sizeOf98
 v80 := Tryz.zeroValue98
 i0 := by kernel_rfl
 i2 := by kernel_rfl
 i3 := by kernel_rfl
 i4 := by kernel_rfl
 i5 := by kernel_rfl
 i9 := by kernel_rfl
 i20 := by kernel_rfl
 i21 := by kernel_rfl
 i37 := by kernel_rfl
 i46 := by kernel_rfl
 i51 := by kernel_rfl
 i53 := by kernel_rfl
 i75 := by kernel_rfl
 i80 := by kernel_rfl
 i85 := by kernel_rfl
 i127 := by kernel_rfl
 i143 := by kernel_rfl
 i145 := by kernel_rfl
 i167 := by kernel_rfl
 i168 := by kernel_rfl
 i171 := by kernel_rfl
 i173 := by kernel_rfl
 i175 := by kernel_rfl
 i210 := by kernel_rfl
 i212 := by kernel_rfl
 i232 := by kernel_rfl
 i233 := by kernel_rfl
 m15 := by kernel_rfl
 m16 := by kernel_rfl
 m17 := by kernel_rfl
 m18 := by kernel_rfl
 m19 := by kernel_rfl
 c0 := by kernel_rfl
 c2 := by kernel_rfl
 c3 := by kernel_rfl
 c4 := by kernel_rfl
 c5 := by kernel_rfl
 c9 := by kernel_rfl
 c20 := by kernel_rfl
 c21 := by kernel_rfl
 c37 := by kernel_rfl
 c46 := by kernel_rfl
 c51 := by kernel_rfl
 c53 := by kernel_rfl
 c75 := by kernel_rfl
 c80 := by kernel_rfl
 c85 := by kernel_rfl
 c127 := by kernel_rfl
 c143 := by kernel_rfl
 c145 := by kernel_rfl
 c167 := by kernel_rfl
 c168 := by kernel_rfl
 c171 := by kernel_rfl
 c173 := by kernel_rfl
 c175 := by kernel_rfl
 c210 := by kernel_rfl
 c212 := by kernel_rfl
 c213 := by kernel_rfl
 c232 := by kernel_rfl
 c233 := by kernel_rfl }
def valN (a : Nat) (l : List UInt8) : Nat := l.foldl (fun a c => a * 10 + (c.toNat - 48)) a
def allD (l : List UInt8) : Prop := ∀ c ∈ l, 48 ≤ c.toNat ∧ c.toNat ≤ 57
theorem Jzc (a : Nat) (c : UInt8) (l : List UInt8) : valN a (c :: l) = valN (a * 10 + (c.toNat - 48)) l := List.foldl_cons ..
theorem Wcf (l : List UInt8) : ∀ a, a ≤ valN a l := by
 induction l with
 | nil => exact fun a => Nat.le_refl _
 | cons c l ih => intro a; have := ih (a * 10 + (c.toNat - 48)); rw [Jzc]; omega
theorem Usb (M : Nat) (hM : M = 18446744073709551615) : ∀ (l : List UInt8) (a : Nat), allD l → Lib.parseUintM M a l = if l = [] then .ok a else if valN a l ≤ M then .ok (valN a l) else .range
 | [], a, _ => rfl
 | c :: l, a, h => by
  have hc := h c (List.mem_cons_self ..)
  have ih := Usb M hM l (a * 10 + (c.toNat - 48)) (fun x hx => h x (List.mem_cons_of_mem _ hx))
  have hge := Wcf l (a * 10 + (c.toNat - 48))
  rw [if_neg (by simp : ¬ (c :: l) = []), Jzc]
  rw [Lib.parseUintM, if_pos hc]
  generalize hv : a * 10 + (c.toNat - 48) = v at ih hge ⊢
  by_cases h1 : 1844674407370955162 ≤ a
  ·rw [if_pos h1, if_neg (by omega)]
  ·rw [if_neg h1]
   by_cases h2 : M < v
   ·rw [if_pos h2, if_neg (by omega)]
   ·rw [if_neg h2, ih]
    by_cases hl : l = []
    ·subst hl; rw [if_pos rfl]; rw [if_pos (show valN v [] ≤ M by show v ≤ M; omega)]; rfl
    ·rw [if_neg hl]
theorem Joc (l : List UInt8) (h : allD l) (hne : l ≠ []) : Lib.parseIntB 64 l = if valN 0 l < 9223372036854775808 then .ok (valN 0 l : Int) else .range := by
 cases l with
 | nil => exact absurd rfl hne
 | cons c r =>
  have hc := h c (List.mem_cons_self ..)
  have e1 : (2 : Nat) ^ (64 - 1) = 9223372036854775808 := by decide
  have e2 : (2 : Nat) ^ 64 - 1 = 18446744073709551615 := by decide
  have hm := Usb _ rfl (c :: r) 0 h
  rw [if_neg (by simp : ¬ (c :: r) = [])] at hm
  simp only [Lib.parseIntB, Lib.parseUintB, e1, e2]
  rw [if_neg (by omega : ¬ (c.toNat = 43 ∨ c.toNat = 45)), if_neg (by simp : ¬ (c :: r) = []), hm]
  by_cases h2 : valN 0 (c :: r) ≤ 18446744073709551615
  ·rw [if_pos h2]
   by_cases h3 : valN 0 (c :: r) < 9223372036854775808
   ·rw [if_pos h3]; simp only []; rw [if_neg (by omega), if_neg (by omega), if_neg (by omega)]
   ·rw [if_neg h3]; simp only []; rw [if_pos (by omega)]
  ·rw [if_neg h2, if_neg (by omega)]
theorem Qxe (l : List UInt8) (h : allD l) (hne : l ≠ []) (hl : l.length ≤ 20000) (w : World) (ev : Value) (hv : w.cell? ⟨3, 0, none⟩ = some ev) (hev : ev = .nilIface ∨ ∃ te pe, ev = .iface te pe) :
  Ret PP Ubb #[Str l, .int .i64 10, .int .i64 64] w fun v w' => (∃ x e, v = .tuple #[.int .i64 x, e] ∧ (e = .nilIface ∨ ∃ a b, e = .iface a b) ∧ nilV e = decide (valN 0 l < 9223372036854775808)) ∧ G w w' := by
 have hp := Joc l h hne
 by_cases h3 : valN 0 l < 9223372036854775808
 ·rw [if_pos h3] at hp
  refine (Go.Proofs.Any.strconv_ParseInt_10_at64_ok Vxd ⟨l.toArray⟩ (by simp [ByteArray.size]; omega) _ (by simpa using hp) w).mono ?_
  rintro e w' ⟨rfl, hw⟩
  refine ⟨_, rfl, ⟨_, .nilIface, rfl, .inl rfl, by rw [Yfg h3]; rfl⟩, ?_⟩
  rcases hw with rfl | ⟨t, rfl⟩
  ·exact G.refl _
  ·exact Lib.bytesWorld_below _ _ _
 ·rw [if_neg h3] at hp
  refine (Go.Proofs.Any.strconv_ParseInt_10_at64_range Vxd ⟨l.toArray⟩ (by simp [ByteArray.size]; omega) (by simpa using hp) ev w hv hev).mono ?_
  rintro e w' ⟨N, rfl, _, _, hb⟩
  exact ⟨_, rfl, ⟨_, _, rfl, .inr ⟨_, _, rfl⟩, by rw [Yeg h3]; rfl⟩, hb⟩
end Go.Rk
namespace Go.Rk
open Go.Proofs
open Go Go.RowKit
def opsL : List (List UInt8) := [[58, 61], [61, 61], [33, 61], [60, 61], [62, 61], [38, 38], [124, 124], [60, 45], [40], [41], [91], [93], [123], [125], [44], [59], [58], [46], [61], [60], [62], [43], [45], [42], [47], [37], [33]]
structure Laid (w : World) : Prop where
 ops : RowAt w 1 0 (opsL.map Str)
 err : ∃ ev, w.cell? ⟨3, 0, none⟩ = some ev ∧ (ev = .nilIface ∨ ∃ te pe, ev = .iface te pe)
theorem Laid.grow {w w' : World} (h : Laid w) (g : G w w') : Laid w' :=
 ⟨h.ops.grow g, by
  obtain ⟨ev, h1, h2⟩ := h.err
  exact ⟨ev, Jra g h1, h2⟩⟩
def cAt (s : List UInt8) (p : Nat) : Int := ((s.getD p 0).toNat : Int)
def isNotLf (c : Int) : Bool := !decide (c = 10)
def isAlnum (c : Int) : Bool := letterB c || digitB c
def Utb (l : List UInt8) : Nat := match opsL.find? (fun o => preB o l) with
 | some o => o.length
 | none => 0
def badD (s : List UInt8) (p n : Nat) : Bool := (decide (cAt s p = 48) && decide ((1 : Int) < n)) || (decide ((p : Int) + n < s.length) && letterB (cAt s (p + n)))
def wordK (l : List UInt8) : Int := bif inB kws l then 3 else 1
def nextF (s : List UInt8) (p : Nat) (ts cs : List Tok) : Nat × List Tok × List Tok × Int :=
 bif decide (cAt s p = 10) then (p + 1, nlTs p ts, cs, 0)
 else bif (decide (cAt s p = 32) || decide (cAt s p = 9)) || decide (cAt s p = 13) then (p + 1, ts, cs, 0)
 else bif preB [47, 47] (s.drop p) then (p + runN isNotLf (s.drop p), ts, cs ++ [⟨5, (s.drop p).take (runN isNotLf (s.drop p)), p⟩], 0)
 else bif letterB (cAt s p) then bif decide ((32 : Int) < runN isAlnum (s.drop p)) then (p, ts, cs, 3)
  else (p + runN isAlnum (s.drop p), ts ++ [⟨wordK ((s.drop p).take (runN isAlnum (s.drop p))), (s.drop p).take (runN isAlnum (s.drop p)), p⟩], cs, 0)
 else bif digitB (cAt s p) then bif badD s p (runN digitB (s.drop p)) then (p, ts, cs, 4)
  else bif decide (valN 0 ((s.drop p).take (runN digitB (s.drop p))) < 9223372036854775808) then (p + runN digitB (s.drop p), ts ++ [⟨2, (s.drop p).take (runN digitB (s.drop p)), p⟩], cs, 0) else (p, ts, cs, 4)
 else bif Nat.beq (Utb (s.drop p)) 0 then (p, ts, cs, 4)
 else (p + Utb (s.drop p), ts ++ [⟨4, (s.drop p).take (Utb (s.drop p)), p⟩], cs, 0)
theorem Qfa {q : Int → Bool} {s : List UInt8} {p : Nat} (h : p < s.length) (hq : q (cAt s p) = true) : 1 ≤ runN q (s.drop p) := by rw [Jyc h hq]; omega
theorem Jlb (q : Int → Bool) {s : List UInt8} {p : Nat} (h : p < s.length) : p + runN q (s.drop p) ≤ s.length := by
 have := Wbf q (s.drop p); rw [List.length_drop] at this; omega
theorem Uec (q : Int → Bool) : ∀ (l : List UInt8), ∀ c ∈ l.take (runN q l), q c.toNat = true
 | [], c, hc => by cases hc
 | a :: l, c, hc => by
  rw [runN] at hc
  split at hc
  ·rename_i h
   rw [List.take_succ_cons] at hc
   rcases List.mem_cons.mp hc with rfl | hc
   ·exact h
   ·exact Uec q l c hc
  ·cases hc
theorem Vyd (s : List UInt8) (p : Nat) : allD ((s.drop p).take (runN digitB (s.drop p))) := fun c hc => by
 have := Uec digitB _ c hc
 simp only [digitB, Bool.and_eq_true, decide_eq_true_eq] at this
 omega
theorem Wdf {i : Nat} (h : i < 27) : (opsL.map Str).toArray[i]? = some (Str (opsL.getD i [])) := by
 have hl : opsL.length = 27 := rfl
 simp [List.getD_eq_getElem?_getD, List.getElem?_eq_getElem (show i < opsL.length by omega)]
theorem Qye : ∀ i < 27, 1 ≤ (opsL.getD i []).length := by decide
theorem Zde {l : List UInt8} {i : Nat} (h : i < 27) (h1 : ∀ j < i, preB (opsL.getD j []) l = false) (h2 : preB (opsL.getD i []) l = true) : Utb l = (opsL.getD i []).length := by
 have hl : opsL.length = 27 := rfl
 have : opsL.find? (fun o => preB o l) = some (opsL.getD i []) := by
  rw [List.find?_eq_some_iff_getElem]
  refine ⟨h2, i, by omega, ?_, fun j hj => ?_⟩
  ·simp [List.getD_eq_getElem?_getD, List.getElem?_eq_getElem (show i < opsL.length by omega)]
  ·have := h1 j hj
   simp [List.getD_eq_getElem?_getD, List.getElem?_eq_getElem (show j < opsL.length by omega)] at this
   simp [this]
 rw [Utb, this]
theorem Zee {l : List UInt8} (h1 : ∀ j < 27, preB (opsL.getD j []) l = false) : Utb l = 0 := by
 have hl : opsL.length = 27 := rfl
 have : opsL.find? (fun o => preB o l) = none := by
  rw [List.find?_eq_none]
  intro o ho
  obtain ⟨j, hj, rfl⟩ := List.getElem_of_mem ho
  have := h1 j (by omega)
  simp [List.getD_eq_getElem?_getD, List.getElem?_eq_getElem hj] at this
  simp [this]
 rw [Utb, this]
theorem Qze {o l : List UInt8} (h : preB o l = true) : o.length ≤ l.length ∧ l.take o.length = o := by
 simpa [preB] using h
theorem Wef (base b : Nat) (hb3 : 4 ≤ base) (s : List UInt8) (p : Nat) (ts cs : List Tok) (w : World) (hL : Laid w) (hs : Scn base b s p ts cs w) (hp : p < s.length) :
  Ret PP Xxb #[.pointer (some ⟨b, 0, none⟩)] w fun v w' => v = .int .i64 (nextF s p ts cs).2.2.2 ∧ Scn base b s (nextF s p ts cs).1 (nextF s p ts cs).2.1 (nextF s p ts cs).2.2.1 w' ∧ Below base w w' := by
 obtain ⟨ta, tc, ca, cc, hs, k1, k2, k3, k4⟩ := hs.sa
 have g := G.refl w
 refine Yp (m := 204) Yeb J J [(0, True, _)] (Za J (Zj _)) ?_
 refine Ze (Zg (Zp J (Zb (kq (Ze (Wr [3, 3, 3, 0, 3, 3, 3, 0, 3, 3] [true, true, true, true, true, true, true, true, true, true] [0, 1, 3, 7, 0, 16, 48, 112, 255, 511] mix (by kernel_rfl) ?_))))))
 have g := gdr g
 refine Zt J (Ui J (Zx Um J (Yg Yr J (by first | exact (hs.grow g).B.at_ J) (Zt J (Ui J (Zx Xn J (Yg Zu J (by first | exact (hs.grow g).B.at_ J) (Yi J (fun _ => Vdb Ue (Zk J) (Zk J) (fun _ => by omega)) (Zp J (Zb (kq (Ze (Yu (Ze (Zg (Zt J (?_)))))))))))))))))
 refine Xt J J (Zp J (Zb (kq (Yv J (fun h1 => ?_) (fun h1 => ?_)))))
 ·replace h1 : decide (cAt s p = 10) = true := h1
  have hN : nextF s p ts cs = (p + 1, nlTs p ts, cs, 0) := by unfold nextF; rw [h1]; rfl
  refine Zg (Zt J (Ya J (Zo Zdb Yo (aqc J aq0) J) (Zbe base b s p ts cs _ ((hs.grow g).scn k1 k2 k3 k4) hp) ?_))
  rintro v45 w45 ⟨rfl, hs', hb'⟩
  refine ⟨nw1, ?_⟩
  have hb' := (Xca g hs.base_le).trans hb'
  refine Zb (kq (Ze (Zg (Zp J (Zb (kq (Zr (Yx J J ?_))))))))
  rw [hN]; exact ⟨rfl, hs', hb'⟩
 replace h1 : decide (cAt s p = 10) = false := h1
 refine Ze (Zg (Zt J (Xt J J (Zt J (Zn J J J (fun _ => Yl (Zk J)) (Zn J J J (fun _ => Vt (Zq J id) Xy) (Yi J (fun _ => Xh (Zk J) (Zq J id)) (Zt J (Zn J J J (fun _ => Yl (Zk J)) (Zn J J J (fun _ => Vt (Zq J id) Xy) (Yi J (fun _ => Xh (Zk J) (Zq J id)) (Zp J (Zb (kq (Yv J (fun h2 => ?_) (fun h2 => ?_))))))))))))))))
 ·replace h2 : ((decide (cAt s p = 32) || decide (cAt s p = 9)) || decide (cAt s p = 13)) = true := h2
  have hN : nextF s p ts cs = (p + 1, ts, cs, 0) := by unfold nextF; rw [h1, h2]; rfl
  refine Zg (Zt J (Ui J (Zx Xn J (Yg Zu J (by first | exact (hs.grow g).B.at_ J) (Qv J J (by omega) (Ui J (Zx Xn J (Ww J Vb (Zk J) (Zk J) J J (hs.grow g).B J J ?_))))))))
  intro w63 hg63 hz63 hB
  have hb' := Wfb (Below.refl _ _) g hg63 hs.base_le hs.hb
  have hs' := ((hs.grow g).setp (q := p + 1) hg63 hB).scn (by omega) (by omega) (by omega) k4
  refine Zb (kq (Ze (Zg (Zp J (Zb (kq (Zr (Yx J J ?_))))))))
  rw [hN]; exact ⟨rfl, hs', hb'⟩
 replace h2 : ((decide (cAt s p = 32) || decide (cAt s p = 9)) || decide (cAt s p = 13)) = false := h2
 refine Ze (Wr [3, 3, 3, 0, 3, 3, 3, 0, 3, 1, 3] [true, true, true, true, true, true, true, true, true, true, true] [0, 1, 3, 7, 0, 16, 48, 112, 255, 511, 1023] mix (by kernel_rfl) ?_)
 have g := gdr g
 refine Zt J (Ui J (Zx Um J (Yg Yr J (by first | exact (hs.grow g).B.at_ J) (Zt J (Ui J (Zx Xn J (Yg Zu J (by first | exact (hs.grow g).B.at_ J) (Yi J (fun _ => Ybc Ue (Zk J) (Zk J) (fun _ => by omega)) (Xk J (Zo Vma Yo (aqc J (aqc J aq0)) J) (Urb _ _ _) (fun w74 g74 => ?_))))))))))
 have g := g.trans g74
 refine Zp J (Zb (kq (Yv J (fun h3 => ?_) (fun h3 => ?_))))
 ·replace h3 : preB [47, 47] (s.drop p) = true := h3
  have hn := Qfa (q := isNotLf) hp (by rw [isNotLf, h1]; rfl)
  have hf := Jlb isNotLf hp
  have hN : nextF s p ts cs = (p + runN isNotLf (s.drop p), ts, cs ++ [⟨5, (s.drop p).take (runN isNotLf (s.drop p)), p⟩], 0) := by unfold nextF; rw [h1, h2, h3]; rfl
  have e : ((p : Int) + (runN isNotLf (s.drop p) : Nat)).toNat - (p : Int).toNat = runN isNotLf (s.drop p) := by omega
  refine Ze (Zg (Zt J (Xk J (Zo Xsa Yo (aqc J (aqc J aq0)) J) (Zce base b s p ts cs _ ((hs.grow g).scn k1 k2 k3 k4) _ isNotLf Yjb Que) (fun w76 g76 => ?_))))
  have g := g.trans g76
  refine Zp J (Zb (kq (Ze (Wr [3, 3, 3, 3, 0, 3, 3, 3, 0, 3, 3, 3, 0, 3, 3, 3, 0, 3, 3, 3, 3, 3, 3, 0, 3, 1, 2, 3, 3, 2] [true, true, true, true, true, true, true, true, true, true, true, true, true, true, true, true, true, true, true, true, true, true, true, true, true, true, true, true, true, true] [0, 0, 2, 6, 14, 0, 32, 96, 224, 0, 512, 1536, 3584, 0, 8192, 24576, 57344, 0, 253952, 524256, 0, 1048576, 3145728, 7340032, 16777184, 33554400, 67108862, 134217727, 268435455, 536870911] mix (by kernel_rfl) ?_))))
  have g := gdr g
  refine Zt J (Zt J (Ui J (Zx Qra J (Yg Zda J (by first | exact (hs.grow g).B.at_ J) (Zt J (Ui J (Zx Um J (Yg Yr J (by first | exact (hs.grow g).B.at_ J) (Zt J (Ui J (Zx Xn J (Yg Zu J (by first | exact (hs.grow g).B.at_ J) (Zt J (Ui J (Zx Xn J (?_))))))))))))))))
  refine Yg Zu J (by first | exact (hs.grow g).B.at_ J) (Zt J (Qv J J (by omega) (Yi J (fun _ => Yjd Ue (Zk J) (Zk J) (Zk J) (fun _ => by omega)) (Zt J (Ui J (Zx Xn J (Yg Zu J (by first | exact (hs.grow g).B.at_ J) (Uc Jq Ymb (pqc J (pqc J (pqc J pq0))) J J (Yb _ J Qe Jq (pqc J pq0) J J ?_)))))))))
  intro b102 w102 N102
  have l102 := N102.ge g
  have g := g.trans N102.g
  have E := (Wo _).new N102
  have hb := Xca g hs.base_le
  have hs := hs.grow g
  have hz0 := hs.base_le
  refine Ysa J Qe Jq J (by decide) (Zk J) hs.hc (Zk J) J N102.blk.row J (by simp only [maxLen]; omega) (by omega) (by omega) ?_
  intro ca' cc' w103 hc' hg103 hat
  have hB := hs.B.keep hg103 (Ne.symm hs.n2)
  have hz := hg103.size
  refine Ui J (Zx Qra J (Ww J Vva (Zk J) (Zk J) J J hB J J ?_))
  intro w105 hg105 hz105 hB
  have hb := Zsa (Zsa hb hg103 hs.base_le (fun k hk => (hs.hc.lt k hk).1)) hg105 (by have := hs.base_le; omega) (fun k hk => by injection hk with hk; have := hs.hb; omega)
  rw [e] at hc'
  have hs := hs.putC (t := ⟨5, (s.drop p).take (runN isNotLf (s.drop p)), p⟩) hc' hg103 hat hg105 hB
  have g := G.refl w105
  refine Zb (kq (Zg (Zt J (Ui J (Zx Xn J (Yg Zu J (by first | exact (hs.grow g).B.at_ J | exact E.g0.at_ J | exact E.g0.row) (Zt J (Qv J J (by omega) (Ui J (Zx Xn J (Ww J Vb (Zk J) (Zk J) J J (hs.grow g).B J J ?_)))))))))))
  intro w113 hg113 hz113 hB
  have hb' := Wfb hb g hg113 hs.base_le hs.hb
  have hs' := ((hs.grow g).setp (q := p + runN isNotLf (s.drop p)) hg113 hB).scn (by omega) (by rw [List.length_append]; show cs.length + 1 ≤ _; omega) hf k4
  refine Wh [(2, _, _)] (Za J (Zj _)) (Zb (kq (Ze (Zg (Zp J (Zb (kq (Zr (Yx J J ?_)))))))))
  rw [hN]; exact ⟨rfl, hs', hb'⟩
 replace h3 : preB [47, 47] (s.drop p) = false := h3
 refine Ze (Zg (Zt J (Xk J (Zo Qaa Yo (aqc J aq0) J) (Znc _ _) (fun w116 g116 => ?_))))
 have g := g.trans g116
 refine Zp J (Zb (kq (Yv J (fun h4 => ?_) (fun h4 => ?_))))
 ·replace h4 : letterB (cAt s p) = true := h4
  have hn := Qfa (q := isAlnum) hp (by rw [isAlnum, h4]; rfl)
  have hf := Jlb isAlnum hp
  have e : ((p : Int) + (runN isAlnum (s.drop p) : Nat)).toNat - (p : Int).toNat = runN isAlnum (s.drop p) := by omega
  refine Ze (Zg (Zt J (Xk J (Zo Xsa Yo (aqc J (aqc J aq0)) J) (Zce base b s p ts cs _ ((hs.grow g).scn k1 k2 k3 k4) _ isAlnum Ylb Qve) (fun w118 g118 => ?_))))
  have g := g.trans g118
  refine Zp J (Zb (kq (Ze (Ze (Zg (Zt J (Ved J J (Zb (kq (Yv J (fun h5 => ?_) (fun h5 => ?_)))))))))))
  ·have hN : nextF s p ts cs = (p, ts, cs, 3) := by unfold nextF; rw [h1, h2, h3, h4, h5]; rfl
   have hs' := (hs.grow g).scn k1 k2 k3 k4
   have hb' := Xca g hs.base_le
   refine Ze (Zg (Zp J (Zb (kq (Zr (Yx J J ?_))))))
   rw [hN]; exact ⟨rfl, hs', hb'⟩
  refine Yc (kq (Ze (Zg (Zp J (Zb (kq (Ze (Ze (Wr [3, 3, 3, 0, 3, 3, 3, 0, 3, 3, 3, 0, 3, 3, 3, 1] [true, true, true, true, true, true, true, true, true, true, true, true, true, true, true, true] [0, 1, 3, 7, 0, 16, 48, 112, 0, 256, 768, 1792, 0, 7936, 16383, 32767] mix (by kernel_rfl) ?_)))))))))
  have g := gdr g
  refine Zt J (Ui J (Zx Um J (Yg Yr J (by first | exact (hs.grow g).B.at_ J) (Zt J (Ui J (Zx Xn J (Yg Zu J (by first | exact (hs.grow g).B.at_ J) (Zt J (Ui J (Zx Xn J (Yg Zu J (by first | exact (hs.grow g).B.at_ J) (Zt J (Qv J J (by omega) (Yi J (fun _ => Yjd Ue (Zk J) (Zk J) (Zk J) (fun _ => by omega)) (Xk J (Zo Xpc Yo (aqc J aq0) J) (Zae _ _) (fun w136 g136 => ?_))))))))))))))))
  have g := g.trans g136
  refine Zb (kq (Yv J (fun h6 => ?_) (fun h6 => ?_)))
  ·rw [e] at h6
   replace h6 : inB kws ((s.drop p).take (runN isAlnum (s.drop p))) = true := h6
   have hN : nextF s p ts cs = (p + runN isAlnum (s.drop p), ts ++ [⟨3, (s.drop p).take (runN isAlnum (s.drop p)), p⟩], cs, 0) := by unfold nextF; rw [h1, h2, h3, h4, h5, wordK, h6]; rfl
   refine Zg (Zp J (Zb (kq (Zg (Zt J (Zt J (Zt J (Ya J (Zo Zxa Yo (aqc J (aqc J (aqc J aq0))) J) (Xod base b s p ts cs _ _ _ ((hs.grow g).scn k1 k2 k3 k4) hn hf) ?_))))))))
   rintro v140 w140 ⟨rfl, hs', hb'⟩
   refine ⟨nw1, ?_⟩
   have hb' := (Xca g hs.base_le).trans hb'
   refine Zb (kq (Ze (Zg (Zp J (Zb (kq (Zr (Yx J J ?_))))))))
   rw [hN]; exact ⟨rfl, hs', hb'⟩
  rw [e] at h6
  replace h6 : inB kws ((s.drop p).take (runN isAlnum (s.drop p))) = false := h6
  have hN : nextF s p ts cs = (p + runN isAlnum (s.drop p), ts ++ [⟨1, (s.drop p).take (runN isAlnum (s.drop p)), p⟩], cs, 0) := by unfold nextF; rw [h1, h2, h3, h4, h5, wordK, h6]; rfl
  refine Yc (kq (Zg (Zt J (Zt J (Zt J (Ya J (Zo Zxa Yo (aqc J (aqc J (aqc J aq0))) J) (Xod base b s p ts cs _ _ _ ((hs.grow g).scn k1 k2 k3 k4) hn hf) ?_))))))
  rintro v140 w140 ⟨rfl, hs', hb'⟩
  refine ⟨nw1, ?_⟩
  have hb' := (Xca g hs.base_le).trans hb'
  refine Zb (kq (Ze (Zg (Zp J (Zb (kq (Zr (Yx J J ?_))))))))
  rw [hN]; exact ⟨rfl, hs', hb'⟩
 replace h4 : letterB (cAt s p) = false := h4
 refine Ze (Zg (Zt J (Xk J (Zo Jma Yo (aqc J aq0) J) (Udc _ _) (fun w143 g143 => ?_))))
 have g := g.trans g143
 refine Zp J (Zb (kq (Yv J (fun h7 => ?_) (fun h7 => ?_))))
 ·replace h7 : digitB (cAt s p) = true := h7
  have hn := Qfa (q := digitB) hp h7
  have hf := Jlb digitB hp
  have e : ((p : Int) + (runN digitB (s.drop p) : Nat)).toNat - (p : Int).toNat = runN digitB (s.drop p) := by omega
  refine Ze (Zg (Zt J (Xk J (Zo Xsa Yo (aqc J (aqc J aq0)) J) (Zce base b s p ts cs _ ((hs.grow g).scn k1 k2 k3 k4) _ digitB Jma Udc) (fun w145 g145 => ?_))))
  have g := g.trans g145
  refine Zp J (Zb (kq (Ze (Ze (Wr [3, 3, 3, 3, 3, 3, 3, 3, 3, 3, 0, 3, 3, 3, 3, 3, 0, 3, 3, 3, 3, 3, 3, 0, 3, 3, 3, 0, 3, 3, 3, 1, 3, 3] [true, true, true, true, true, true, true, true, true, true, true, true, true, true, true, true, true, true, true, true, true, true, true, true, true, true, true, true, true, true, true, true, true, true] [0, 1, 3, 7, 15, 31, 63, 127, 255, 511, 1023, 127, 4095, 127, 8319, 24703, 57471, 123007, 262143, 524287, 1048575, 2097151, 4194303, 8388607, 1048575, 17825791, 51380223, 118489087, 1048575, 521142271, 1073741823, 2147483647, 4294967295, 8589934591] mix (by kernel_rfl) ?_)))))
  have g := gdr g
  refine Zt J (Xt J J (Zt J (Zn J J J (fun _ => Yl (Zk J)) (Zn J J J (fun _ => Yue (Zq J id) Xy) (Yi J (fun _ => Zz (Zk J) (Zq J id)) (Zt J (Zn J J J (fun _ => Yl (Zk J)) (Zn J J J (fun _ => Jl (Zq J id)) (Zn J J J (fun _ => Zv Xn (Zq J id)) (Yj J J J (Ye Zu (Zq J id) (fun _ => by first | exact (hs.grow g).B.at_ J)) (Zn J J J (fun _ => Yl (Zk J)) (Zn J J J (fun _ => Ygd (Zq J id) (Zq J id) (fun _ => by omega)) (Zn J J J (fun _ => Yl (Zk J)) (Zn J J J (fun _ => Jl (Zq J id)) (Zn J J J (fun _ => Zv Um (Zq J id)) (?_))))))))))))))))
  refine Yj J J J (Ye Yr (Zq J id) (fun _ => by first | exact (hs.grow g).B.at_ J)) (Zn J J J (fun _ => Vha Ue (Zq J id)) (Zn J J J (fun _ => Ujf (Zq J id) (Zq J id)) (Zn J J J (fun _ => Yl (Zq J id)) (Zn J J J (fun _ => Yl (Zk J)) (Zn J J J (fun _ => Jl (Zq J id)) (Zn J J J (fun _ => Zv Um (Zq J id)) (Yj J J J (Ye Yr (Zq J id) (fun _ => by first | exact (hs.grow g).B.at_ J)) (Zn J J J (fun _ => Yl (Zk J)) (Zn J J J (fun _ => Jl (Zq J id)) (Zn J J J (fun _ => Zv Xn (Zq J id)) (Yj J J J (Ye Zu (Zq J id) (fun _ => by first | exact (hs.grow g).B.at_ J)) (Zn J J J (fun _ => Yl (Zk J)) (Zn J J J (fun _ => Ygd (Zq J id) (Zq J id) (fun _ => by omega)) (Zn J J J (fun _ => Vdb Ue (Zq J id) (Zq J id) (fun hc => by have := of_decide_eq_true hc.2; omega)) (We J J J (fun _ => (Zo Qaa Yo (Xf (Zq J id) (Xw)) J)) (fun hc => Znc _ _) (fun w177 g177 => ?_))))))))))))))))
  have g := g.trans g177
  refine Zn J J J (fun _ => Zz (Zq J id) (Zq J id)) (Yi J (fun _ => Xh (Zk J) (Zq J id)) (Wh [(0, _, _), (2, _, _), (7, _, _), (179, _, _)] (Za J (Za J (Za J (Za J (Zj _))))) (Zb (kq (Yv J (fun h8 => ?_) (fun h8 => ?_))))))
  ·replace h8 : badD s p (runN digitB (s.drop p)) = true := h8
   have hN : nextF s p ts cs = (p, ts, cs, 4) := by unfold nextF; rw [h1, h2, h3, h4, h7, h8]; rfl
   have hs' := (hs.grow g).scn k1 k2 k3 k4
   have hb' := Xca g hs.base_le
   refine Ze (Zg (Zp J (Zb (kq (Zr (Yx J J ?_))))))
   rw [hN]; exact ⟨rfl, hs', hb'⟩
  replace h8 : badD s p (runN digitB (s.drop p)) = false := h8
  obtain ⟨ev, he1, he2⟩ := hL.err
  have hdl : ((s.drop p).take (runN digitB (s.drop p))).length = runN digitB (s.drop p) := by rw [List.length_take, List.length_drop]; omega
  refine Yc (kq (Ze (Ze (Wr [3, 3, 3, 0, 3, 3, 3, 0, 3, 3, 3, 0, 3, 3, 3, 1, 3, 3, 3, 3, 3] [true, true, true, true, true, true, true, true, true, true, true, true, true, true, true, true, true, true, true, true, true] [0, 1, 3, 7, 0, 16, 48, 112, 0, 256, 768, 1792, 0, 7936, 16383, 32767, 65535, 131071, 131071, 262143, 1048575] mix (by kernel_rfl) ?_))))
  have g := gdr g
  refine Zt J (Ui J (Zx Um J (Yg Yr J (by first | exact (hs.grow g).B.at_ J) (Zt J (Ui J (Zx Xn J (Yg Zu J (by first | exact (hs.grow g).B.at_ J) (Zt J (Ui J (Zx Xn J (Yg Zu J (by first | exact (hs.grow g).B.at_ J) (Zt J (Qv J J (by omega) (Yi J (fun _ => Yjd Ue (Zk J) (Zk J) (Zk J) (fun _ => by omega)) (Ya J (Zo Ucb Yo (aqc J (aqc J (aqc J aq0))) J) (Qxe _ (by rw [e]; exact Vyd s p) (by rw [e]; intro h0; have h0 := congrArg List.length h0; rw [show (List.take (runN digitB (s.drop p)) (List.drop (p : Int).toNat s)).length = runN digitB (s.drop p) from hdl] at h0; simp at h0; omega) (by rw [e]; show ((s.drop p).take (runN digitB (s.drop p))).length ≤ 20000; omega) _ ev (Jra g he1) he2) ?_)))))))))))))))
  rintro v196 w196 ⟨⟨x, er, rfl, her, hnil⟩, g196⟩
  refine ⟨fun _ => g196, ?_⟩
  have g := g.trans g196
  replace hnil : nilV er = decide (valN 0 ((s.drop p).take (runN digitB (s.drop p))) < 9223372036854775808) := by rw [e] at hnil; exact hnil
  refine Zt J (Qc J J (Qc J J (Zp J (Zp J (Zb (kq (Ze (Zg (Zt J (Yi J (fun _ => Qzf Vvd (Zk J) her) (Zb (kq (Yv J (fun h9 => ?_) (fun h9 => ?_))))))))))))))
  ·have h9 : decide (valN 0 ((s.drop p).take (runN digitB (s.drop p))) < 9223372036854775808) = false := by replace h9 : (!nilV er) = true := h9; rw [hnil] at h9; simpa using h9
   have hN : nextF s p ts cs = (p, ts, cs, 4) := by unfold nextF; rw [h1, h2, h3, h4, h7, h8, h9]; rfl
   have hs' := (hs.grow g).scn k1 k2 k3 k4
   have hb' := Xca g hs.base_le
   refine Ze (Zg (Zp J (Zb (kq (Zr (Yx J J ?_))))))
   rw [hN]; exact ⟨rfl, hs', hb'⟩
  have h9 : decide (valN 0 ((s.drop p).take (runN digitB (s.drop p))) < 9223372036854775808) = true := by replace h9 : (!nilV er) = false := h9; rw [hnil] at h9; simpa using h9
  have hN : nextF s p ts cs = (p + runN digitB (s.drop p), ts ++ [⟨2, (s.drop p).take (runN digitB (s.drop p)), p⟩], cs, 0) := by unfold nextF; rw [h1, h2, h3, h4, h7, h8, h9]; rfl
  refine Yc (kq (Zg (Zt J (Zt J (Ya J (Zo Zxa Yo (aqc J (aqc J (aqc J aq0))) J) (Xod base b s p ts cs _ _ _ ((hs.grow g).scn k1 k2 k3 k4) hn hf) ?_)))))
  rintro v203 w203 ⟨rfl, hs', hb'⟩
  refine ⟨nw1, ?_⟩
  have hb' := (Xca g hs.base_le).trans hb'
  refine Zb (kq (Ze (Zg (Zp J (Zb (kq (Zr (Yx J J ?_))))))))
  rw [hN]; exact ⟨rfl, hs', hb'⟩
 replace h7 : digitB (cAt s p) = false := h7
 refine Ze (Ze (Zg (Yk Jnc J J ((hL.grow g).ops) (Zt J (Zb (kq (Yu (Qmb (fun (i : Nat) u => i ≤ 27 ∧ (∀ j < i, preB (opsL.getD j []) (s.drop p) = false) ∧ G w u) (fun i => [(0, True, .pointer (some ⟨b, 0, none⟩)), (21, True, .agg (opsL.map Str).toArray), (22, True, .int .i64 i)]) (fun i => 27 - i) 0 ⟨by omega, by intro j hj; omega, g⟩ (Za J (Za J (Za J (Zj _)))) ?_))))))))
 rintro i u ⟨hi, hpre, g⟩
 refine Ze (Zg (Zfa J J (Zb (kq (Ze (Yv J (fun h10 => ?_) (fun h10 => ?_)))))))
 ·simp only [decide_eq_true_eq] at h10
  have hi27 : i < 27 := by omega
  refine Yc (kq (Ze (Yu (Ze (Zg (Yi J (fun _ => Xrf Xld (Zk J) (Zk J) (fun _ => by omega) (fun _ => Wdf hi27)) (Zp J (Zb (kq (Ze (Wr [3, 3, 3, 0, 3, 3, 3, 0, 3, 3, 1] [true, true, true, true, true, true, true, true, true, true, true] [0, 1, 3, 7, 0, 16, 48, 112, 255, 0, 1023] mix (by kernel_rfl) ?_)))))))))))
  have g := gdr g
  refine Zt J (Ui J (Zx Um J (Yg Yr J (by first | exact (hs.grow g).B.at_ J) (Zt J (Ui J (Zx Xn J (Yg Zu J (by first | exact (hs.grow g).B.at_ J) (Yi J (fun _ => Ybc Ue (Zk J) (Zk J) (fun _ => by omega)) (Zt J (Xk J (Zo Vma Yo (aqc J (aqc J aq0)) J) (Urb _ _ _) (fun w35 g35 => ?_)))))))))))
  have g := g.trans g35
  refine Zb (kq (Yv J (fun h11 => ?_) (fun h11 => ?_)))
  ·replace h11 : preB (opsL.getD i []) (s.drop p) = true := h11
   have h0 := Zde hi27 hpre h11
   have hn := Qye i hi27
   have hf : p + (opsL.getD i []).length ≤ s.length := by have := (Qze h11).1; rw [List.length_drop] at this; omega
   have hN : nextF s p ts cs = (p + (opsL.getD i []).length, ts ++ [⟨4, (s.drop p).take (opsL.getD i []).length, p⟩], cs, 0) := by
    unfold nextF; rw [h1, h2, h3, h4, h7, h0, show Nat.beq (opsL.getD i []).length 0 = false by rw [Bool.eq_false_iff]; intro h; have := Nat.eq_of_beq_eq_true h; omega]; rfl
   refine Ze (Zg (Zt J (Zt J (Yi J (fun _ => Vha Ue (Zk J)) (Ya J (Zo Zxa Yo (aqc J (aqc J (aqc J aq0))) J) (Xod base b s p ts cs _ _ _ ((hs.grow g).scn k1 k2 k3 k4) hn hf) ?_)))))
   rintro v39 w39 ⟨rfl, hs', hb'⟩
   refine ⟨nw1, ?_⟩
   have hb' := (Xca g hs.base_le).trans hb'
   refine Zb (kq (Ze (Zg (Zp J (Zb (kq (Zr (Yx J J ?_))))))))
   rw [hN]; exact ⟨rfl, hs', hb'⟩
  refine Yc (kq (Zg (Qv J J (by omega) (Zt J (Wh [(0, _, _), (21, _, _), (22, _, _)] (Za J (Za J (Za J (Zj _)))) (Zb (fun a ha => ?_)))))))
  exact ⟨i + 1, ha, ⟨by omega, by
   intro j hj
   by_cases e : j = i
   ·rw [e]; exact h11
   ·exact hpre j (by omega), g⟩, by omega⟩
 simp only [decide_eq_false_iff_not] at h10
 have hi27 : i = 27 := by omega
 subst hi27
 have h0 := Zee hpre
 have hN : nextF s p ts cs = (p, ts, cs, 4) := by unfold nextF; rw [h1, h2, h3, h4, h7, h0]; rfl
 have hs' := (hs.grow g).scn k1 k2 k3 k4
 have hb' := Xca g hs.base_le
 refine Vq J (kq (Ze (Zg (Zp J (Zb (kq (Zr (Yx J J ?_))))))))
 rw [hN]; exact ⟨rfl, hs', hb'⟩
def goF (s : List UInt8) : Nat → Nat → List Tok → List Tok → Nat × List Tok × List Tok × Int
 | 0, p, ts, cs => (p, ts, cs, 0)
 | f + 1, p, ts, cs => bif decide (p < s.length) then bif decide ((nextF s p ts cs).2.2.2 = 0) then goF s f (nextF s p ts cs).1 (nextF s p ts cs).2.1 (nextF s p ts cs).2.2.1 else nextF s p ts cs else (p, ts, cs, 0)
def allF (s : List UInt8) : Nat × List Tok × List Tok × Int := bif decide ((20000 : Int) < s.length) then (0, [], [], 3) else goF s s.length 0 [] []
theorem Jae {s : List UInt8} {p : Nat} {ts cs : List Tok} (h : p < s.length) (he : (nextF s p ts cs).2.2.2 = 0) : p < (nextF s p ts cs).1 := by
 unfold nextF at he ⊢
 cases h1 : decide (cAt s p = 10)
 ·cases h2 : ((decide (cAt s p = 32) || decide (cAt s p = 9)) || decide (cAt s p = 13))
  ·cases h3 : preB [47, 47] (s.drop p)
   ·cases h4 : letterB (cAt s p)
    ·cases h7 : digitB (cAt s p)
     ·cases h8 : Nat.beq (Utb (s.drop p)) 0
      ·simp only [cond_true, cond_false]
       have : Utb (s.drop p) ≠ 0 := by intro h0; rw [h0] at h8; cases h8
       omega
      ·rw [h1, h2, h3, h4, h7, h8] at he; simp at he
     ·have := Qfa (q := digitB) h h7
      rw [h1, h2, h3, h4, h7] at he
      cases h8 : badD s p (runN digitB (s.drop p))
      ·rw [h8] at he
       cases h9 : decide (valN 0 ((s.drop p).take (runN digitB (s.drop p))) < 9223372036854775808)
       ·rw [h9] at he; simp at he
       ·simp only [cond_true, cond_false]; omega
      ·rw [h8] at he; simp at he
    ·have := Qfa (q := isAlnum) h (by rw [isAlnum, h4]; rfl)
     rw [h1, h2, h3, h4] at he
     cases h5 : decide ((32 : Int) < runN isAlnum (s.drop p))
     ·simp only [cond_true, cond_false]; omega
     ·rw [h5] at he; simp at he
   ·have := Qfa (q := isNotLf) h (by rw [isNotLf, h1]; rfl)
    simp only [cond_true, cond_false]; omega
  ·simp only [cond_true, cond_false]; omega
 ·simp only [cond_true, cond_false]; omega
theorem Jgf (s : List UInt8) (w : World) (hL : Laid w) (hb3 : 4 ≤ w.heap.size) :
  Ret PP Vod #[Str s] w fun v w' => ∃ b ta tc ca cc, v = .tuple #[.pointer (some ⟨b, 0, none⟩), .int .i64 (allF s).2.2.2] ∧ SA w.heap.size b s (allF s).1 (allF s).2.1 (allF s).2.2.1 ta tc ca cc w' ∧ G w w' := by
 have g := G.refl w
 refine Yp (m := 27) Qzc J J [(0, True, _)] (Za J (Zj _)) ?_
 refine Ze (Zg (Zp J (Zp J (Zb (kq (Ze (Zg (Zt J (Uc Xvc Xwc (pqc J pq0) J J (Wq J (Zk J) J ?_))))))))))
 intro b8 w8 N8
 have l8 := N8.ge g
 have g := g.trans N8.g
 have E := (Wo _).new N8
 refine Zp J (Zb (kq (Ze (Ze (Zg (Zt J (Yi J (fun _ => Vha Ue (Zk J)) (Ved J J (Zb (kq (Yv J (fun h1 => ?_) (fun h1 => ?_))))))))))))
 ·have hN : allF s = (0, [], [], 3) := by unfold allF; rw [h1]; rfl
  refine Ze (Zg (Zt J (Zp J (Zp J (Zb (kq (Zr (Uva (ts := [2, 3]) (vs := [_, _]) J J J ?_))))))))
  rw [hN]; exact ⟨b8, none, 0, none, 0, rfl, ⟨E.g0, l8, Wna _ _ _ _, Wna _ _ _ _, (by intro h; cases h), (by intro h; cases h), (by intro k h; cases h)⟩, g⟩
 have hN : allF s = goF s s.length 0 [] [] := by unfold allF; rw [h1]; rfl
 simp only [decide_eq_false_iff_not] at h1
 refine Yc (kq (Ze (Yu (?_))))
 refine Qmb (fun (x : Nat × List Tok × List Tok × Nat) u => Scn w.heap.size b8 s x.1 x.2.1 x.2.2.1 u ∧ s.length - x.1 ≤ x.2.2.2 ∧ goF s x.2.2.2 x.1 x.2.1 x.2.2.1 = goF s s.length 0 [] [] ∧ G w u) (fun _ => [(0, True, Str s), (4, True, .pointer (some ⟨b8, 0, none⟩))]) (fun x => s.length - x.1) (0, [], [], s.length)
  ⟨(show SA w.heap.size b8 s 0 [] [] none 0 none 0 w8 from ⟨E.g0, l8, Wna _ _ _ _, Wna _ _ _ _, (by intro h; cases h), (by intro h; cases h), (by intro k h; cases h)⟩).scn (Nat.zero_le _) (Nat.zero_le _) (Nat.zero_le _) (by omega), Nat.sub_le _ _, rfl, g⟩ (Za rfl (Za rfl (Zj _))) ?_
 rintro ⟨p, ts, cs, f⟩ u ⟨hs, hf, he, g⟩
 simp only at hs hf he
 obtain ⟨ta, tc, ca, cc, hA, k1, k2, k3, k4⟩ := hs.sa
 refine Ze (Ze (Zg (Zt J (Ui J (Zx Xn J (Yg Zu J (hA.B.at_ J) (Zt J (Yi J (fun _ => Vha Ue (Zk J)) (Zfa J J (Zb (kq (Yv J (fun h2 => ?_) (fun h2 => ?_)))))))))))))
 ·replace h2 : p < s.length := by simp only [decide_eq_true_eq] at h2; omega
  obtain ⟨f', rfl⟩ : ∃ f', f = f' + 1 := ⟨f - 1, by omega⟩
  rw [goF, Yfg h2, cond_true] at he
  refine Yc (kq (Yu (Ze (Zg (Zt J (Ya J (Zo Xyb Yo (aqc J aq0) J) (Wef _ _ hb3 s p ts cs _ (hL.grow g) hs h2) ?_))))))
  rintro v21 w21 ⟨rfl, hs', hb'⟩
  refine ⟨nw1, ?_⟩
  have g : G w w21 := Below.trans g hb'
  refine Zp J (Zb (kq (Ze (Zg (Zt J (Wja J J (Zb (kq (Yv J (fun h3 => ?_) (fun h3 => ?_))))))))))
  ·replace h3 : decide ((nextF s p ts cs).2.2.2 = 0) = false := by simpa using h3
   rw [h3, cond_false] at he
   refine Ze (Zg (Zt J (Zt J (Zp J (Zp J (Zb (kq (Zr (Uva (ts := [2, 3]) (vs := [_, _]) J J J ?_)))))))))
   rw [hN, ← he]
   obtain ⟨ta, tc, ca, cc, hA, _⟩ := hs'.sa
   exact ⟨b8, ta, tc, ca, cc, rfl, hA, g⟩
  replace h3 : (nextF s p ts cs).2.2.2 = 0 := by simpa using h3
  have hlt := Jae h2 h3
  rw [Yfg h3, cond_true] at he
  refine Jmd [(0, _, _), (4, _, _)] (Za J (Za J (Zj _))) (Yc (fun a ha => ?_))
  exact ⟨(_, _, _, f'), ha, ⟨hs', by show s.length - (nextF s p ts cs).1 ≤ f'; omega, he, g⟩, by show s.length - (nextF s p ts cs).1 < s.length - p; omega⟩
 have hp : p = s.length := by simp only [decide_eq_false_iff_not] at h2; omega
 have he : (p, ts, cs, (0 : Int)) = goF s s.length 0 [] [] := by
  rw [← he]
  cases f with
  | zero => rfl
  | succ f' => rw [goF, Yeg (by omega : ¬ p < s.length)]; rfl
 refine Vq J (kq (Ze (Zg (Zt J (Zp J (Zp J (Zb (kq (Zr (Uva (ts := [2, 3]) (vs := [_, _]) J J J ?_))))))))))
 rw [hN, ← he]
 exact ⟨b8, ta, tc, ca, cc, rfl, hA, g⟩
def scanF (s : List UInt8) : List Tok × Nat × Int := bif !decide ((allF s).2.2.2 = 0) then ([], (allF s).1, (allF s).2.2.2) else ((allF s).2.1, 0, 0)
def Toks (base : Nat) (l : List Tok) (v : Value) (w : World) : Prop := w.ownsRow base Yha 3 v l.length (toksCells l)
theorem Wff (s : List UInt8) (w : World) (hL : Laid w) (hb3 : 4 ≤ w.heap.size) :
  Ret PP Yzd #[Str s] w fun v w' => ∃ l, v = .tuple #[l, .int .i64 (scanF s).2.1, .int .i64 (scanF s).2.2] ∧ Toks w.heap.size (scanF s).1 l w' ∧ G w w' := by
 have g := G.refl w
 refine Yp (m := 23) Vic J J [(0, True, _)] (Za J (Zj _)) ?_
 refine Ze (Zg (Zp J (Zp J (Zp J (Zb (kq (Ze (Zg (Zt J (Ya J (Zo Vpd Yo (aqc J aq0) J) (Jgf s _ (hL.grow g) hb3) ?_))))))))))
 rintro v9 w9 ⟨b, ta, tc, ca, cc, rfl, hA, g9⟩
 refine ⟨fun _ => g9, ?_⟩
 have g := g.trans g9
 refine Zt J (Qc J J (Qc J J (Zp J (Zp J (Zb (kq (Ze (Ze (Zg (Zt J (Wja J J (Zb (kq (Yv J (fun h1 => ?_) (fun h1 => ?_)))))))))))))))
 ·(try simp only [Xq] at h1)
  refine Ze (Wr [3, 3, 3, 0, 3, 3, 3, 3] [true, true, true, true, true, true, true, true] [0, 1, 3, 7, 0, 0, 47, 127] mix (by kernel_rfl) ?_)
  have g := gdr g
  have gh := G.drew w9
  refine Zt J (Ui J (Zx Xn J (Yg Zu J (by first | exact (hA.grow gh).B.at_ J) (Zt J (Zp J (Zp J (Zp J (Zb (kq (Zr (Uva (ts := [2, 3, 4]) (vs := [_, _, _]) J J J ?_)))))))))))
  refine ⟨.slice none 0 0, ?_, ?_, g⟩
  ·rw [scanF, show (!decide ((allF s).2.2.2 = 0)) = true from h1]; rfl
  ·rw [scanF, show (!decide ((allF s).2.2.2 = 0)) = true from h1]; exact Wna _ _ _ _
 have gh := G.refl w9
 refine Yc (kq (Ze (Zg (Zt J (Ui J (Zx Jg J (Yg Zda J (by first | exact (hA.grow gh).B.at_ J) (Zp J (Zp J (Zp J (Zb (kq (Zr (Uva (ts := [2, 3, 4]) (vs := [_, _, _]) J J J ?_))))))))))))))
 refine ⟨.slice ta (allF s).2.1.length tc, ?_, ?_, g⟩
 ·rw [scanF, show (!decide ((allF s).2.2.2 = 0)) = false from h1]; rfl
 ·rw [scanF, show (!decide ((allF s).2.2.2 = 0)) = false from h1]; exact hA.ht
structure Ty where
 kind : Int
 name : List UInt8
inductive Nd where
 | mk (kind : Int) (text : List UInt8) (num pos : Int) (kids : List Nd) (ty : Ty) (ref up : Int)
namespace Nd
def kind : Nd → Int | .mk k _ _ _ _ _ _ _ => k
def text : Nd → List UInt8 | .mk _ x _ _ _ _ _ _ => x
def num : Nd → Int | .mk _ _ n _ _ _ _ _ => n
def pos : Nd → Int | .mk _ _ _ a _ _ _ _ => a
def kids : Nd → List Nd | .mk _ _ _ _ ks _ _ _ => ks
def ty : Nd → Ty | .mk _ _ _ _ _ y _ _ => y
def ref : Nd → Int | .mk _ _ _ _ _ _ r _ => r
def up : Nd → Int | .mk _ _ _ _ _ _ _ u => u
end Nd
def ty0 : Ty := ⟨0, []⟩
def nd0 : Nd := .mk 0 [] 0 0 [] ty0 0 0
def tyCells (y : Ty) : List Value := [.int .i64 y.kind, Str y.name]
def ndCells (t : Nd) (v : Value) : List Value := [.int .i64 t.kind, Str t.text, .int .i64 t.num, .int .i64 t.pos, v, .int .i64 t.ty.kind, Str t.ty.name, .int .i64 t.ref, .int .i64 t.up]
@[reducible] def tyV (y : Ty) : Value := .agg (tyCells y).toArray
@[reducible] def ndV (t : Nd) (v : Value) : Value := .agg (ndCells t v).toArray
theorem Ufc (t : Nd) (v : Value) : (ndCells t v).length = 9 := rfl

mutual
theorem Nd.ind_n {C : Nd → Prop} (h : ∀ t, (∀ k ∈ t.kids, C k) → C t) : ∀ t, C t
 | .mk k x n a ks y r u => h _ (Nd.ind_l h ks)
theorem Nd.ind_l {C : Nd → Prop} (h : ∀ t, (∀ k ∈ t.kids, C k) → C t) : ∀ (l : List Nd), ∀ k ∈ l, C k
 | [] => fun _ hk => by cases hk
 | t :: ts => List.forall_mem_cons.2 ⟨Nd.ind_n h t, Nd.ind_l h ts⟩
end
theorem Nd.ind {C : Nd → Prop} (h : ∀ t, (∀ k ∈ t.kids, C k) → C t) (t : Nd) : C t := Nd.ind_n h t

section
variable {α : Type}
mutual
def para (f : Nd → List α → α) : Nd → α
 | .mk k x n a ks y r u => f (.mk k x n a ks y r u) (paraL f ks)
def paraL (f : Nd → List α → α) : List Nd → List α
 | [] => []
 | t :: ts => para f t :: paraL f ts
end
theorem Jbe (f : Nd → List α → α) (l : List Nd) : paraL f l = l.map (para f) := by
 induction l with
 | nil => rfl
 | cons t ts ih => rw [paraL, ih]; rfl
theorem Xja (f : Nd → List α → α) (t : Nd) : para f t = f t (t.kids.map (para f)) := by
 cases t with
 | mk k x n a ks y r u => rw [para, Jbe]; rfl
end

mutual
def KRow (w : World) (D : Nat → Prop) : List Nd → List Value → Prop
 | [], xs => xs = []
 | t :: ts, xs => ∃ v r, xs = ndCells t v ++ r ∧ KNd w D t v ∧ KRow w D ts r
def KNd (w : World) (D : Nat → Prop) : Nd → Value → Prop
 | .mk _ _ _ _ ks _ _ _, v => ∃ p c, v = .slice p ks.length c ∧ ks.length ≤ c ∧ (0 < ks.length → ∃ b o, p = some ⟨b, o, none⟩ ∧ D b ∧ ∃ xs, RowAt w b o xs ∧ KRow w D ks xs)
end
def Kd (w : World) (D : Nat → Prop) (ks : List Nd) (v : Value) : Prop :=
 ∃ p c, v = .slice p ks.length c ∧ ks.length ≤ c ∧ (0 < ks.length → ∃ b o, p = some ⟨b, o, none⟩ ∧ D b ∧ ∃ xs, RowAt w b o xs ∧ KRow w D ks xs)
theorem Ugc (w : World) (D : Nat → Prop) (t : Nd) (v : Value) : KNd w D t v = Kd w D t.kids v := by
 cases t; rw [KNd]; rfl
theorem Vzd {w : World} {D : Nat → Prop} : KRow w D [] [] := rfl
theorem Uh {w : World} {D : Nat → Prop} {t : Nd} {ts : List Nd} {v : Value} {r : List Value} (h : Kd w D t.kids v) (k : KRow w D ts r) : KRow w D (t :: ts) (ndCells t v ++ r) :=
 ⟨v, r, rfl, (Ugc ..).symm ▸ h, k⟩
theorem Qsa {w : World} {D : Nat → Prop} : ∀ {ks : List Nd} {xs : List Value}, KRow w D ks xs → xs.length = ks.length * 9
 | [], xs, h => by rw [show xs = [] from h]; rfl
 | t :: ts, xs, h => by
  obtain ⟨v, r, rfl, _, h⟩ := h
  rw [List.length_append, Ufc, Qsa h, List.length_cons]; omega
theorem Wgb {w : World} {D : Nat → Prop} : ∀ {ks ls : List Nd} {xs ys : List Value}, KRow w D ks xs → KRow w D ls ys → KRow w D (ks ++ ls) (xs ++ ys)
 | [], ls, xs, ys, h, k => by rw [show xs = [] from h]; exact k
 | t :: ts, ls, xs, ys, h, k => by
  obtain ⟨v, r, rfl, h1, h⟩ := h
  exact ⟨v, r ++ ys, by rw [List.append_assoc], h1, Wgb h k⟩
theorem Wp {w : World} {D : Nat → Prop} {t : Nd} {v : Value} (h : Kd w D t.kids v) : KRow w D [t] (ndCells t v) := by
 have := Uh h (Vzd (w := w) (D := D)); rwa [List.append_nil] at this
theorem Uad {w : World} {D : Nat → Prop} : ∀ {ks : List Nd} {xs : List Value} (_ : KRow w D ks xs) {i : Nat} (hi : i < ks.length), ∃ v, (xs.drop (i * 9)).take 9 = ndCells ks[i] v ∧ Kd w D ks[i].kids v
 | [], xs, h, i, hi => by cases hi
 | t :: ts, xs, h, i, hi => by
  obtain ⟨v, r, rfl, h1, h⟩ := h
  cases i with
  | zero => exact ⟨v, by simp [ndCells], Ugc w D t v ▸ h1⟩
  | succ i =>
   have hi' : i < ts.length := by simpa using hi
   obtain ⟨v', e, k⟩ := Uad h hi'
   refine ⟨v', ?_, k⟩
   have e9 : (ndCells t v ++ r).drop ((i + 1) * 9) = r.drop (i * 9) := by
    rw [show (i + 1) * 9 = 9 + i * 9 by omega, ← List.drop_drop]; rfl
   rw [e9]; exact e
mutual
theorem Yia {w w' : World} {D D' : Nat → Prop} (hD : ∀ b, D b → b < w.heap.size → D' b) (hf : ∀ b, D b → b < w.heap.size → w'.heap[b]? = w.heap[b]?) : ∀ (ks : List Nd) (xs : List Value), KRow w D ks xs → KRow w' D' ks xs
 | [], xs, h => h
 | t :: ts, xs, h => by
  obtain ⟨v, r, rfl, h1, h⟩ := h
  exact ⟨v, r, rfl, Zad hD hf t v h1, Yia hD hf ts r h⟩
theorem Zad {w w' : World} {D D' : Nat → Prop} (hD : ∀ b, D b → b < w.heap.size → D' b) (hf : ∀ b, D b → b < w.heap.size → w'.heap[b]? = w.heap[b]?) : ∀ (t : Nd) (v : Value), KNd w D t v → KNd w' D' t v
 | .mk k x n a ks y r u, v, h => by
  obtain ⟨p, c, rfl, hc, h⟩ := h
  refine ⟨p, c, rfl, hc, fun h0 => ?_⟩
  obtain ⟨b, o, rfl, hb, xs, hR, hX⟩ := h h0
  have hl : xs.length = ks.length * 9 := Qsa hX
  have h0' : ∃ u, xs[0]? = some u := ⟨xs[0]'(by omega), by simp⟩
  obtain ⟨u0, hu0⟩ := h0'
  have hlt : b < w.heap.size := World.block_lt_of_cell? w _ (hR 0 u0 hu0)
  have hb' := hf b hb hlt
  refine ⟨b, o, rfl, hD b hb hlt, xs, fun j u hj => ?_, Yia hD hf ks xs hX⟩
  have := hR j u hj
  unfold World.cell? at this ⊢
  simp only [hb']
  exact this
end
theorem Yaa {w w' : World} {D D' : Nat → Prop} {ks : List Nd} {v : Value} (h : Kd w D ks v) (hD : ∀ b, D b → b < w.heap.size → D' b) (hf : ∀ b, D b → b < w.heap.size → w'.heap[b]? = w.heap[b]?) : Kd w' D' ks v := by
 have := Zad hD hf (.mk 0 [] 0 0 ks ty0 0 0) v ((Ugc w D _ v).symm ▸ h)
 rw [Ugc] at this; exact this
theorem Kd.mono {w : World} {D D' : Nat → Prop} {ks : List Nd} {v : Value} (h : Kd w D ks v) (hD : ∀ b, D b → b < w.heap.size → D' b) : Kd w D' ks v := Yaa h hD fun _ _ _ => rfl
theorem KRow.mono {w : World} {D D' : Nat → Prop} {ks : List Nd} {xs : List Value} (h : KRow w D ks xs) (hD : ∀ b, D b → b < w.heap.size → D' b) : KRow w D' ks xs := Yia hD (fun _ _ _ => rfl) _ _ h
theorem Kd.grow {w w' : World} {D : Nat → Prop} {ks : List Nd} {v : Value} (h : Kd w D ks v) (g : G w w') : Kd w' D ks v := Yaa h (fun _ h _ => h) fun _ _ hb => g.block hb
theorem KRow.grow {w w' : World} {D : Nat → Prop} {ks : List Nd} {xs : List Value} (h : KRow w D ks xs) (g : G w w') : KRow w' D ks xs := Yia (fun _ h _ => h) (fun _ _ hb => g.block hb) _ _ h
theorem Kd.keep {w w' : World} {D : Nat → Prop} {ks : List Nd} {v : Value} {row : Option Nat} (h : Kd w D ks v) (hg : w.grownBy w' row) (hne : ∀ b, D b → b < w.heap.size → some b ≠ row) : Kd w' D ks v := Yaa h (fun _ h _ => h) fun b hb hlt => hg.block b hlt (hne b hb hlt)
theorem KRow.keep {w w' : World} {D : Nat → Prop} {ks : List Nd} {xs : List Value} {row : Option Nat} (h : KRow w D ks xs) (hg : w.grownBy w' row) (hne : ∀ b, D b → b < w.heap.size → some b ≠ row) : KRow w' D ks xs := Yia (fun _ h _ => h) (fun b hb hlt => hg.block b hlt (hne b hb hlt)) _ _ h
theorem Kd.lt {w : World} {D : Nat → Prop} {ks : List Nd} {v : Value} (h : Kd w D ks v) : Kd w (fun b => D b ∧ b < w.heap.size) ks v := Yaa h (fun _ h hl => ⟨h, hl⟩) fun _ _ _ => rfl
theorem KRow.lt {w : World} {D : Nat → Prop} {ks : List Nd} {xs : List Value} (h : KRow w D ks xs) : KRow w (fun b => D b ∧ b < w.heap.size) ks xs := Yia (fun _ h hl => ⟨h, hl⟩) (fun _ _ _ => rfl) _ _ h
theorem Wza (w : World) (D : Nat → Prop) : Kd w D [] (.slice none 0 0) := ⟨none, 0, rfl, Nat.le_refl _, fun h => absurd h (Nat.lt_irrefl 0)⟩
theorem Jhf {w : World} {base : Nat} {e : TypeId} {v : Value} {m : Nat} {xs : List Value} {D : Nat → Prop} {ks : List Nd} (h : w.ownsRow base e 9 v m xs) (hm : m = ks.length) (k : KRow w D ks xs) (hD : ∀ b, v.ownBlock = some b → D b) : Kd w D ks v := by
 subst hm
 obtain ⟨a, c, rfl, hc⟩ := Zxb h
 refine ⟨a, c, rfl, hc, fun h0 => ?_⟩
 obtain ⟨b, c', hv, _, hR, _⟩ := Qqa h h0
 injection hv with hv _ _
 subst hv
 exact ⟨b, 0, rfl, hD b rfl, xs, hR, k⟩
theorem Uk {w : World} {D : Nat → Prop} {ks : List Nd} {b o c : Nat} {xs : List Value} (hb : D b) (hR : RowAt w b o xs) (hX : KRow w D ks xs) (hc : ks.length ≤ c) : Kd w D ks (.slice (some ⟨b, o, none⟩) ks.length c) := ⟨_, c, rfl, hc, fun _ => ⟨b, o, rfl, hb, xs, hR, hX⟩⟩
theorem Qta {w : World} {D : Nat → Prop} {ks : List Nd} {b o : Nat} {xs : List Value} (hR : RowAt w b o xs) (hX : KRow w D ks xs) {i : Nat} (hi : i < ks.length) : ∃ p c, RowAt w b (o + i * 9) (ndCells ks[i] (.slice p ks[i].kids.length c)) ∧ Kd w D ks[i].kids (.slice p ks[i].kids.length c) := by
 obtain ⟨v, e, k⟩ := Uad hX hi
 have := hR.part (i * 9) 9
 rw [e] at this
 obtain ⟨p, c, rfl, k1⟩ := k
 exact ⟨p, c, this, p, c, rfl, k1⟩
/-! counting -/
def count (t : Nd) : Nat := para (fun _ l => 1 + l.sum) t
theorem Jx (t : Nd) : count t = 1 + (t.kids.map count).sum := Xja _ t
theorem Yhc (l : List Nat) (i : Nat) : (l.take i).sum ≤ l.sum := by
 conv => rhs; rw [← List.take_append_drop i l, List.sum_append]
 omega
theorem Xka {t : Nd} {i : Nat} (h : i < t.kids.length) : ((t.kids.take i).map count).sum + count t.kids[i] + 1 ≤ count t := by
 rw [Jx t]
 have := Yhc (t.kids.map count) (i + 1)
 rw [← List.map_take, List.take_add_one, List.getElem?_eq_getElem h] at this
 simp only [Option.toList_some, List.map_append, List.map_cons, List.map_nil, List.sum_append, List.sum_cons, List.sum_nil] at this
 omega
theorem Jo (t : Nd) : 1 ≤ count t := by rw [Jx]; omega
theorem Uub : ∀ (l : List Nd), l.length ≤ (l.map count).sum
 | [] => Nat.le_refl _
 | t :: ts => by have := Uub ts; have := Jo t; simp; omega
theorem Qt (t : Nd) : t.kids.length + 1 ≤ count t := by
 have := Uub t.kids; rw [Jx]; omega
theorem Zma {t k : Nd} (h : k ∈ t.kids) : count k + 1 ≤ count t := by
 obtain ⟨i, hi, rfl⟩ := List.getElem_of_mem h
 have := Xka hi; omega
theorem Joa {α β : Type} (f : α → β) (l : List α) (i : Nat) (h : i < l.length) : (l.take (i + 1)).map f = (l.take i).map f ++ [f l[i]] := by
 rw [List.take_add_one, List.getElem?_eq_getElem h, List.map_append]; rfl
theorem Xee (c : Int) (w : World) : Ret PP Jac #[.int .u8 c] w fun v w' => v = .bool (letterB c) ∧ G w w' := by
 have g := G.refl w
 refine Yp (m := 21) Xcc J J [(0, True, _)] (Za J (Zj _)) ?_
 refine Ze (Zg (Zp J (Zb (kq (Ze (Zg (Zt J (Xsb J J (Zt J (Zn J J J (fun _ => Yl (Zk J)) (Zn J J J (fun _ => Ufb (Zq J id) Xy) (Yi J (fun _ => Zz (Zk J) (Zq J id)) (Zt J (Zn J J J (fun _ => Yl (Zk J)) (Zn J J J (fun _ => Ugb (Zq J id) Xy) (Zn J J J (fun _ => Yl (Zq J id)) (?_)))))))))))))))))
 refine Zn J J J (fun _ => Yl (Zk J)) (Zn J J J (fun _ => Ufb (Zq J id) Xy) (Zn J J J (fun _ => Zz (Zq J id) (Zq J id)) (Yi J (fun _ => Xh (Zk J) (Zq J id)) (Zt J (Zn J J J (fun _ => Yl (Zk J)) (Zn J J J (fun _ => Vt (Zq J id) Xy) (Yi J (fun _ => Xh (Zk J) (Zq J id)) (Zp J (Zb (kq (Zr (Yx J J ?_))))))))))))
 exact ⟨rfl, g⟩
theorem Wgf (c : Int) (w : World) : Ret PP Xdd #[.int .u8 c] w fun v w' => v = .bool (digitB c) ∧ G w w' := by
 have g := G.refl w
 refine Yp (m := 9) Vtc J J [(0, True, _)] (Za J (Zj _)) ?_
 refine Ze (Zg (Zp J (Zb (kq (Ze (Zg (Zt J (Xsb J J (Zt J (Zn J J J (fun _ => Yl (Zk J)) (Zn J J J (fun _ => Ufb (Zq J id) Xy) (Yi J (fun _ => Zz (Zk J) (Zq J id)) (Zp J (Zb (kq (Zr (Yx J J ?_)))))))))))))))))
 exact ⟨rfl, g⟩
def alB (c : UInt8) : Bool := letterB c.toNat || digitB c.toNat
def nameB (s : List UInt8) : Bool := !(((decide (s = []) || decide ((32 : Int) < s.length)) || !letterB (cAt s 0)) || inB kws s) && (s.drop 1).all alB
theorem Jce {s : List UInt8} {i : Nat} (h : i < s.length) : cAt s i = (s[i].toNat : Int) := by simp [cAt, List.getD_eq_getElem?_getD, List.getElem?_eq_getElem h]
theorem Wqa (s : List UInt8) (w : World) : Ret PP Vld #[Str s] w fun v w' => v = .bool (nameB s) ∧ G w w' := by
  have g := G.refl w
  refine Yp (m := 39) Qwc J J [(0, True, _)] (Za J (Zj _)) ?_
  refine Ze (Zg (Zp J (Zb (kq (Ze (Ze (Zg (Zt J (Wi J J (Zt J (Zn J J J (fun _ => Yl (Zk J)) (Zn J J J (fun _ => Vha Ue (Zq J id)) (Zn J J J (fun _ => Yue (Zq J id) Xy) (Yi J (fun _ => Xh (Zk J) (Zq J id)) (Zt J (Zn J J J (fun _ => Yl (Zk J)) (?_)))))))))))))))))
  refine Zn J J J (fun _ => Vdb Ue (Zq J id) Xy (fun hc => by
 have h1 := hc.2; simp only [Bool.or_eq_false_iff, decide_eq_false_iff_not] at h1
 have : s.length ≠ 0 := fun h => h1.1 (List.length_eq_zero_iff.1 h)
 omega)) (We rfl rfl rfl (fun _ => (Zo Ulb Yo (Xf (Zq rfl id) (Xw)) rfl)) (fun hc => Xee _ _) (fun w14 g14 => ?_))
  have g := g.trans g14
  refine Zn J J J (fun _ => Xqa (Zq J id)) (Yi J (fun _ => Xh (Zk J) (Zq J id)) (Zt J (Zn J J J (fun _ => Yl (Zk J)) (We J J J (fun _ => (Zo Vsc Yo (Xf (Zq J id) (Xw)) J)) (fun hc => Vwd _ _) (fun w19 g19 => ?_)))))
  have g := g.trans g19
  refine Yi J (fun _ => Xh (Zk J) (Zq J id)) (Zb (kq (Yv J (fun h1 => ?_) (fun h1 => ?_))))
  ·(try simp only [Xq] at h1)
   refine Ze (Zg (Zp J (Zb (kq (Zr (Yx J J ?_))))))
   refine ⟨Ygg ?_, g⟩
   unfold nameB; rw [show (((decide (s = []) || decide ((32 : Int) < s.length)) || !letterB (cAt s 0)) || inB kws s) = true from h1]; rfl
  have hn : nameB s = (s.drop 1).all alB := by unfold nameB; rw [show (((decide (s = []) || decide ((32 : Int) < s.length)) || !letterB (cAt s 0)) || inB kws s) = false from h1]; rfl
  have hl32 : s.length ≤ 32 := by
   simp only [Bool.or_eq_false_iff, decide_eq_false_iff_not] at h1; omega
  refine Yc (kq (Ze (Ze (Zg (Zp J (Zb (kq (Yu (Qq (fun (i : Nat) u1 => (1 ≤ i ∧ ∀ j, 1 ≤ j → (h : j < s.length) → j < i → alB s[j] = true) ∧ G w19 u1) [(0, True, _)] (fun (i : Nat) => [(3, True, .int .i64 i)]) (fun (i : Nat) => s.length - i) (1) ⟨⟨by omega, fun j h1 _ h2 => by omega⟩, G.refl _⟩ (Za J (Za J (Zj _))) ?_)))))))))
  rintro i u1 ⟨hI1, gl1⟩
  have g := g.trans gl1
  refine Ze (Ze (Zg (Zt J (Zt J (Yi J (fun _ => Vha Ue (Zk J)) (Zfa J J (Zb (kq (Yv J (fun h2 => ?_) (fun h2 => ?_))))))))))
  ·replace h2 : i < s.length := by simp only [decide_eq_true_eq] at h2; omega
   refine Yc (kq (Ze (Yu (Ze (Zg (Zt J (Zt J (Yi J (fun _ => Vdb Ue (Zk J) (Zk J) (fun _ => by omega)) (Xk J (Zo Ulb Yo (aqc J aq0) J) (Xee _ _) (fun w30 g30 => ?_))))))))))
   have g := g.trans g30
   have gl1 := gl1.trans (g30)
   refine Wia J (Zt J (Zn J J J (fun _ => Yl (Zk J)) (Zn J J J (fun _ => Yl (Zk J)) (Zn J J J (fun _ => Vdb Ue (Zq J id) (Zq J id) (fun hc => by omega)) (We J J J (fun _ => (Zo Xed Yo (Xf (Zq J id) (Xw)) J)) (fun hc => Wgf _ _) (fun w36 g36 => ?_))))))
   have g := g.trans g36
   have gl1 := gl1.trans (g36)
   refine Zn J J J (fun _ => Xqa (Zq J id)) (Yi J (fun _ => Zz (Zk J) (Zq J id)) (Zb (kq (Yv J (fun h3 => ?_) (fun h3 => ?_)))))
   ·have h3' : alB s[i] = false := by
     rw [alB, ← Jce h2]; simpa [cAt] using h3
    refine Ze (Zg (Zp J (Zb (kq (Zr (Yx J J ?_))))))
    refine ⟨Ygg ?_, g⟩
    rw [hn, eq_comm, List.all_eq_false]
    exact ⟨s[i], List.mem_drop_iff_getElem.2 ⟨i - 1, by omega, by congr 1; omega⟩, by rw [h3']; simp⟩
   have h3' : alB s[i] = true := by
    rw [alB, ← Jce h2]
    cases ha : letterB (cAt s i)
    ·cases hb : digitB (cAt s i)
     ·exfalso
      have h3 : (!letterB (cAt s i) && !digitB (cAt s i)) = false := h3
      rw [ha, hb] at h3; cases h3
     ·rfl
    ·rfl
   refine Yc (kq (Zg (Zt J (Qv J J (by omega) (Zp J (Wh [(3, _, _), (0, _, _)] (Za J (Za J (Zj _))) (Zb (fun a ha => ?_))))))))
   refine ⟨i + 1, ha, ⟨⟨by omega, fun j h4 h5 h6 => ?_⟩, gl1⟩, by omega⟩
   by_cases e : j = i
   ·subst e; exact h3'
   ·exact hI1.2 j h4 h5 (by omega)
  replace h2 : s.length ≤ i := by simp only [decide_eq_false_iff_not] at h2; omega
  refine Vq J (kq (Ze (Zg (Zp J (Zb (kq (Zr (Yx J J ?_))))))))
  refine ⟨Ygg ?_, g⟩
  rw [hn, eq_comm, List.all_eq_true]
  intro x hx
  obtain ⟨j, hj, rfl⟩ := List.mem_drop_iff_getElem.1 hx
  exact hI1.2 _ (by omega) (by omega) (by omega)
/-! the same by the scanner -/
theorem Zfe {c : Int} (h : letterB c = true) : decide (c = 10) = false ∧ ((decide (c = 32) || decide (c = 9)) || decide (c = 13)) = false ∧ decide (c = 47) = false := by
 simp only [letterB, Bool.or_eq_true, Bool.and_eq_true, decide_eq_true_eq] at h
 simp only [Bool.or_eq_false_iff, decide_eq_false_iff_not]
 omega
theorem Zbd {q : Int → Bool} : ∀ {l : List UInt8}, (∀ c ∈ l, q c.toNat = true) → runN q l = l.length
 | [], _ => rfl
 | c :: l, h => by
  rw [runN, if_pos (h c (List.mem_cons_self ..)), Zbd fun x hx => h x (List.mem_cons_of_mem _ hx)]; rfl
theorem Jde {s : List UInt8} (h : nameB s = true) : s.length ≠ 0 ∧ s.length ≤ 32 ∧ letterB (cAt s 0) = true ∧ inB kws s = false ∧ runN isAlnum s = s.length := by
 unfold nameB at h
 simp only [Bool.and_eq_true, Bool.not_eq_true', Bool.or_eq_false_iff, decide_eq_false_iff_not, Bool.not_eq_false'] at h
 obtain ⟨⟨⟨⟨h1, h2⟩, h3⟩, h4⟩, h5⟩ := h
 refine ⟨fun e => h1 (List.length_eq_zero_iff.1 e), by omega, h3, h4, Zbd fun c hc => ?_⟩
 cases s with
 | nil => cases hc
 | cons a l =>
  rcases List.mem_cons.1 hc with rfl | hc
  ·have : letterB (c.toNat : Int) = true := h3
   rw [isAlnum, this]; rfl
  ·exact List.all_eq_true.1 h5 c hc
theorem Vhe {l : List UInt8} (h : decide (cAt l 0 = 47) = false) : preB [47, 47] l = false := by
 cases l with
 | nil => rfl
 | cons a l =>
  have : ¬ (a.toNat : Int) = 47 := of_decide_eq_false h
  unfold preB
  rw [Bool.and_eq_false_iff]; right
  rw [decide_eq_false_iff_not]
  intro e
  rw [List.length_cons, List.take_succ_cons] at e
  injection e with e1 _
  subst e1
  exact this rfl
theorem Vie {s : List UInt8} (h : nameB s = true) : scanF s = ([⟨1, s, 0⟩], 0, 0) := by
 obtain ⟨h0, h1, h2, h3, h4⟩ := Jde h
 obtain ⟨a1, a2, a3⟩ := Zfe h2
 have hN : nextF s 0 [] [] = (s.length, [⟨1, s, 0⟩], [], 0) := by
  unfold nextF
  rw [a1, a2, show s.drop 0 = s from rfl, Vhe a3, h2, h4, Yeg (by omega : ¬ (32 : Int) < (s.length : Nat)), List.take_of_length_le (Nat.le_refl _), wordK, h3]
  simp
 have hG : goF s s.length 0 [] [] = (s.length, [⟨1, s, 0⟩], [], 0) := by
  obtain ⟨m, hm⟩ : ∃ m, s.length = m + 1 := ⟨s.length - 1, by omega⟩
  rw [hm, goF, Yfg (by omega : 0 < s.length), hN]
  simp only [cond_true, decide_true]
  cases m with
  | zero => rw [goF, hm]
  | succ m => rw [goF, Yeg (by omega), cond_false, hm]
 rw [scanF, allF, Yeg (by omega : ¬ (20000 : Int) < s.length), cond_false, hG]
 rfl
def NameTok (t : Tok) : Prop := t.kind = 1 → nameB t.text = true
theorem Zge {s : List UInt8} {p : Nat} {ts : List Tok} (cs : List Tok) (hp : p < s.length) (h : ∀ t ∈ ts, NameTok t) : ∀ t ∈ (nextF s p ts cs).2.1, NameTok t := by
 have hn : ∀ (l : List Tok) (t : Tok), (∀ t ∈ l, NameTok t) → NameTok t → ∀ u ∈ l ++ [t], NameTok u := by
  intro l t hl ht u hu
  rcases List.mem_append.1 hu with hu | hu
  ·exact hl u hu
  ·rw [List.mem_singleton.1 hu]; exact ht
 unfold nextF
 cases h1 : decide (cAt s p = 10)
 ·cases h2 : ((decide (cAt s p = 32) || decide (cAt s p = 9)) || decide (cAt s p = 13))
  ·cases h3 : preB [47, 47] (s.drop p)
   ·cases h4 : letterB (cAt s p)
    ·cases h7 : digitB (cAt s p)
     ·cases h8 : Nat.beq (Utb (s.drop p)) 0
      ·exact hn _ _ h (fun e => by simp at e)
      ·exact h
     ·cases h8 : badD s p (runN digitB (s.drop p))
      ·cases h9 : decide (valN 0 ((s.drop p).take (runN digitB (s.drop p))) < 9223372036854775808)
       ·exact h
       ·exact hn _ _ h (fun e => by simp at e)
      ·exact h
    ·cases h5 : decide ((32 : Int) < runN isAlnum (s.drop p))
     ·refine hn _ _ h (fun e => ?_)
      simp only at e ⊢
      have hq : isAlnum (cAt s p) = true := by rw [isAlnum, h4]; rfl
      have hpos := Qfa hp hq
      have hfit := Jlb isAlnum hp
      have hall := Uec isAlnum (s.drop p)
      generalize hX : (s.drop p).take (runN isAlnum (s.drop p)) = x at e hall ⊢
      have hl : x.length = runN isAlnum (s.drop p) := by rw [← hX, List.length_take, List.length_drop]; omega
      have hk : inB kws x = false := by
       cases hk : inB kws x
       ·rfl
       ·rw [wordK, hk] at e; cases e
      have hc : cAt x 0 = cAt s p := by
       rw [← hX]
       unfold cAt
       simp [List.getD_eq_getElem?_getD, List.getElem?_take, show 0 < runN isAlnum (s.drop p) from hpos]
      have h5' := of_decide_eq_false h5
      unfold nameB
      rw [Yeg (by omega : ¬ (32 : Int) < (x.length : Nat)), hc, h4, hk, Yeg (by intro e0; rw [e0] at hl; simp at hl; omega)]
      simp only [Bool.not_true, Bool.or_false, Bool.not_false, Bool.true_and]
      rw [List.all_eq_true]
      intro c hc
      exact hall c (List.mem_of_mem_drop hc)
     ·exact h
   ·exact h
  ·exact h
 ·show ∀ t ∈ nlTs p ts, NameTok t
  intro t ht
  have : nlTs p ts = ts ∨ ∃ q, nlTs p ts = ts ++ [⟨4, [59], q⟩] := by
   unfold nlTs
   cases ts.getLast? with
   | none => exact .inl rfl
   | some u => simp only []; split <;> first | exact .inl rfl | exact .inr ⟨_, rfl⟩
  rcases this with e | ⟨q, e⟩
  ·rw [e] at ht; exact h t ht
  ·rw [e] at ht; exact hn _ _ h (fun e => by simp at e) t ht
theorem Ubd (s : List UInt8) : ∀ (f p : Nat) (ts cs : List Tok), (∀ t ∈ ts, NameTok t) → ∀ t ∈ (goF s f p ts cs).2.1, NameTok t
 | 0, _, _, _, h => h
 | f + 1, p, ts, cs, h => by
  rw [goF]
  cases hp : decide (p < s.length)
  ·exact h
  ·have hn := Zge (ts := ts) cs (of_decide_eq_true hp) h
   cases decide ((nextF s p ts cs).2.2.2 = 0)
   ·exact hn
   ·exact Ubd s f _ _ _ hn
theorem Zhe (s : List UInt8) : ∀ t ∈ (scanF s).1, NameTok t := by
 rw [scanF, allF]
 cases decide ((20000 : Int) < s.length)
 ·simp only [cond_false]
  have := Ubd s s.length 0 [] [] (fun t ht => by cases ht)
  cases (!decide ((goF s s.length 0 [] []).2.2.2 = 0))
  ·exact this
  ·exact fun t ht => by cases ht
 ·exact fun t ht => by cases ht
def tok1 (l : List Tok) : Tok := l.getD 0 ⟨0, [], 0⟩
def Jee (s : List UInt8) : Bool := ((decide ((scanF s).2.2 = 0) && decide (((scanF s).1.length : Int) = 1)) && decide ((tok1 (scanF s).1).kind = 1)) && decide ((tok1 (scanF s).1).text = s)
theorem Jfe (s : List UInt8) : Jee s = nameB s := by
 cases h : nameB s
 ·rw [Jee, Bool.eq_false_iff]
  intro hp
  simp only [Bool.and_eq_true, decide_eq_true_eq] at hp
  obtain ⟨⟨⟨_, h2⟩, h3⟩, h4⟩ := hp
  have hm : tok1 (scanF s).1 ∈ (scanF s).1 := by
   cases hl : (scanF s).1 with
   | nil => rw [hl] at h2; simp at h2
   | cons a l => exact List.mem_cons_self ..
  have := Zhe s _ hm h3
  rw [h4, h] at this; cases this
 ·rw [Jee, Vie h]
  simp [tok1]
def pb (p : Option Addr) : Nat := match p with | some a => a.block | none => 0
def po (p : Option Addr) : Nat := match p with | some a => a.off | none => 0
def anyK : List Int → Int → Bool
 | [], _ => false
 | [a], k => decide (k = a)
 | a :: b :: l, k => decide (k = a) || anyK (b :: l) k
def anyS : List (List UInt8) → List UInt8 → Bool
 | [], _ => false
 | [a], k => decide (k = a)
 | a :: b :: l, k => decide (k = a) || anyS (b :: l) k
theorem Qga : ∀ (l : List Int) (k : Int), anyK l k = true ↔ k ∈ l
 | [], k => by simp [anyK]
 | [a], k => by simp [anyK]
 | a :: b :: l, k => by rw [anyK, Bool.or_eq_true, Qga (b :: l) k, decide_eq_true_eq, List.mem_cons (a := k) (b := a)]
theorem Yba : ∀ (l : List (List UInt8)) (k : List UInt8), anyS l k = true ↔ k ∈ l
 | [], k => by simp [anyS]
 | [a], k => by simp [anyS]
 | a :: b :: l, k => by rw [anyS, Bool.or_eq_true, Yba (b :: l) k, decide_eq_true_eq, List.mem_cons (a := k) (b := a)]
theorem Jge {w : World} {b o : Nat} {l : List Tok} (h : RowAt w b o (toksCells l)) (hl : 0 < l.length) : RowAt w b o (tokCells (tok1 l)) := by
 cases l with
 | nil => cases hl
 | cons t l =>
  have := h.part 0 3
  exact this
theorem Wj {P : Program} {n : Nat} {σ : List Ent} {c : Prop} {wb : World} {ty : TypeId} {t e z by_ : Nat} {x y : Operand} {p : Option Addr} {m q : Nat} {k : IntKind} {i : Int} (ht : tyElem P t = some (e, z, by_)) (h : Ev n σ c x (.slice p m q)) (h' : Ev n σ c y (.int k i)) (hi : c → 0 ≤ i ∧ i < m) (hp : c → p = some ⟨pb p, po p, none⟩) :
  Rd P n σ c wb (.indexAddr t x y) ty (.pointer (some ⟨pb p, po p + i.toNat * z, none⟩)) := fun d pos after gd a ha hc w1 hg =>
 Jwb (P := P) (wb := wb) ht (Ev.to h fun hc => congrArg (fun p => Value.slice p m q) (hp hc)) h' hi d pos after gd a ha hc w1 hg
theorem Ve {P : Program} {Z : List PanicEntry → Act → World → Prop} {ops : List Oper} {cl : List Nat} {lv : List Bool} {W0 : World} {n : Nat} {K : Act → World → Prop} {k : Nat} {rest : List Oper} {σ : List Ent} {w : World} {d : Nat} {ty : TypeId} {pos : String} {after : Array Edge} {x y : Operand} {t e z by_ : Nat} {p : Option Addr} {m q : Nat} {g : IntKind} {i : Int} (ht : tyElem P t = some (e, z, by_)) (hx : opv σ x = some (True, .slice p m q)) (hy : opv σ y = some (True, .int g i)) (hi : 0 ≤ i ∧ i < m) (hp : p = some ⟨pb p, po p, none⟩)
  (h : SR P Z ops cl lv W0 n K (k + 1) rest ((d, True, .pointer (some ⟨pb p, po p + i.toNat * z, none⟩)) :: σ) w) (hb : (Nat.beq (clOf cl k) 3 && Nat.blt d n) = true := by exact rfl) : SR P Z ops cl lv W0 n K k (⟨some d, .indexAddr t x y, ty, pos, after, none⟩ :: rest) σ w := Yi hb (fun _ => Wj ht (Xea hx) (Xea hy) (fun _ => hi) fun _ => hp) h
theorem Zie {base : Nat} {l : List Tok} {v : Value} {w : World} (h : Toks base l v w) : ∃ a c, v = .slice a l.length c ∧ (0 < l.length → a = some ⟨pb a, po a, none⟩ ∧ RowAt w (pb a) (po a) (tokCells (tok1 l))) := by
 obtain ⟨a, c, rfl, _⟩ := Zxb h
 refine ⟨a, c, rfl, fun h0 => ?_⟩
 obtain ⟨b, c', hv, _, hR, _⟩ := Qqa h h0
 injection hv with hv _ _
 subst hv
 exact ⟨rfl, Jge hR h0⟩
end Go.Rk
namespace Go.Rk
open Go.Proofs
open Go Go.RowKit Go.ChangeShapes Go.WideShapes
end Go.Rk
namespace Go.Rk
open Go.Proofs
open Go Go.RowKit Go.ChangeShapes Go.WideShapes Go.ChangeAt
theorem Jpc {H : Type} {enc : TypeId × Value → H} {P : Program} {w : World} {base : Nat} {sp : Nat → Bool} {held : Bool} {fuel : Nat} {t e : TypeId} {n : Nat} {cs : List Value} {ls : List (List UInt8)} {p : List MemPlace}
  (ht : P.underlying t = some (.array n e)) (he : P.underlying e = some .string) (hce : P.cellsOf e = 1) (hct : P.cellsOf t = n)
  (h : DataW.trod enc P w base sp held fuel t cs = some (.agg (ls.map fun l => .lit (.string l)), p)) : cs = ls.map Str := by
 cases fuel with
 | zero => simp [DataW.trod] at h
 | succ fuel =>
  simp only [DataW.trod, ht, hce, hct, Nat.mul_one] at h
  split at h
  ·rename_i hl
   obtain ⟨xs, hm, hx⟩ := Option.map_eq_some_iff.1 h
   have hxs : xs.map (·.1) = ls.map fun l => (DataW.lit (.string l) : DataW H) := by
    have := congrArg Prod.fst hx
    simpa using this
   have hxl : xs.length = n := by simpa using Lib.mapM_length hm
   have hzl : ls.length = n := by
    have := congrArg List.length hxs
    simp at this
    omega
   apply List.ext_getElem?
   intro i
   by_cases hi : i < n
   ·obtain ⟨b, hb, hf⟩ := Lib.mapM_at hm i i (by simp [hi])
    obtain ⟨s, hc, rfl, _⟩ := DataW.trod_string he hf
    have h1 : cs[i]? = some (.string s) := by
     have := congrArg (·[0]?) hc
     simpa [List.getElem?_take, List.getElem?_drop] using this
    have h2 : (xs.map (·.1))[i]? = some (DataW.lit (.string s.data.toList) : DataW H) := by simp [hb]
    rw [hxs] at h2
    simp only [List.getElem?_map, Option.map_eq_some_iff, DataW.lit.injEq, Lit.string.injEq] at h2
    obtain ⟨z', hz', e⟩ := h2
    rw [h1]
    simp [hz', e]
   ·rw [List.getElem?_eq_none (by omega), List.getElem?_eq_none (by simp; omega)]
  ·cases h
theorem Xfe {P : Program} {x : String × DataW Unit} {r : List (String × DataW Unit)} {W : World} {g : Nat} {t : TypeId} (h : laidMet P (x :: r) W) (hg : P.globalNamed x.1 = some g) (ht : (P.globals[g]?).map (·.type) = some t) :
  ∃ cs fuel p, W.var? P x.1 = some cs ∧ DataW.trod (fun _ => ()) P W 0 (fun _ => true) false fuel t cs.toList = some (x.2, p) := by
 obtain ⟨n, d⟩ := x
 obtain ⟨ps, ⟨g', t', cs, fuel, p, q, hg', ht', hvar, hd, _, _⟩, _⟩ := h
 obtain rfl := Option.some.inj (hg.symm.trans hg')
 obtain rfl := Option.some.inj (ht.symm.trans ht')
 exact ⟨cs, fuel, p, hvar, hd⟩
abbrev laidL : List (String × DataW Unit) := Go.Proofs.YtgfkioikloeaiaaGreatDoor.Rows.foldCheckedRow.laid
theorem Zje {W : World} (h : laidMetH PP laidL W) : Laid W := by
 have h0 : laidMet PP laidL W := h
 obtain ⟨cs, fuel, p, hv, hd⟩ := Xfe h0.tail.tail.tail.tail.tail (g := 1) (t := 138) (by kernel_rfl) (by kernel_rfl)
 have hc : cs.toList = opsL.map Str := Jpc (n := 27) (e := 9) (by kernel_rfl) (by kernel_rfl) (by kernel_rfl) (by kernel_rfl) hd
 obtain ⟨cs2, fuel2, p2, hv2, hd2⟩ := Xfe h0.tail.tail.tail (g := 3) (t := 135) (by kernel_rfl) (by kernel_rfl)
 obtain ⟨ms, hms⟩ : ∃ ms, PP.underlying 135 = some (.interface ms) := Go.underlying_of_isIface Vvd
 obtain ⟨f', u, v, hc2, _⟩ := iface_of_trod hms hd2
 refine ⟨fun j v hj => ?_, ?_⟩
 ·have := World.var?_cell (by kernel_rfl : PP.globalNamed _ = some 1) hv j
  rw [Nat.zero_add, this, ← hj, ← hc]; simp
 ·have := World.var?_cell (by kernel_rfl : PP.globalNamed _ = some 3) hv2 0
  refine ⟨.iface u v, ?_, .inr ⟨_, _, rfl⟩⟩
  rw [this, ← Array.getElem?_toList, hc2]; rfl
theorem Vje {W : World} (h : Laid W) : 4 ≤ W.heap.size := by
 obtain ⟨ev, h1, _⟩ := h.err
 exact World.block_lt_of_cell? W _ h1
end Go.Rk
namespace Go.Proofs.YtgfkioikloeaiaaGreatDoor
open Go Go.RowKit Go.ChangeShapes Go.WideShapes Go.ChangeAt Go.Rk
theorem own : ownKnob Tryz.prog.godebug = none := by kernel_rfl
def cellOf : DataW Unit → Value
 | .lit (.int k z) => .int k z
 | .lit (.string s) => .string ⟨s.toArray⟩
 | _ => .nilIface
def cellsOf : DataW Unit → Array Value
 | .agg l => (l.map cellOf).toArray
 | _ => #[]
def Jhe : DataW Unit → Value
 | .iface _ (.ptr (.agg [d])) => cellOf d
 | _ => .nilIface
def put (h : Array Obj) (g : Nat) (cs : Array Value) : Array Obj := h.modify g fun
 | .cells _ t frozen => .cells cs t frozen
 | o => o
noncomputable def laidWorld (os : Os) : World :=
 let N := (World.settled Tryz.prog os).heap.size
 let w0 := World.holding Tryz.prog os ⟨#[.cells #[Jhe Rows.laid_strconv_ErrSyntax] 167, .cells #[Jhe Rows.laid_strconv_ErrRange] 167], #[], []⟩
 let h0 := put w0.heap 1 (cellsOf Rows.laid_interleave_scan_operators)
 let h1 := put h0 2 #[.iface 165 (.pointer (some ⟨N, 0, none⟩))]
 let h2 := put h1 3 #[.iface 165 (.pointer (some ⟨N + 1, 0, none⟩))]
 let h3 := put h2 4 (cellsOf Rows.laid_internal_strconv_uint64pow10)
 let h4 := put h3 5 (cellsOf Rows.laid_math_bits_deBruijn32tab)
 let h5 := put h4 6 (cellsOf Rows.laid_math_bits_deBruijn64tab)
 { w0 with heap := h5 }
end Go.Proofs.YtgfkioikloeaiaaGreatDoor
namespace Go.Rk
open Go.Proofs
open Go Go.RowKit
def rng (z : Int) : Prop := -9223372036854775808 ≤ z ∧ z ≤ 9223372036854775807
def okNd (t : Nd) : Prop := para (fun t l => rng t.kind ∧ rng t.num ∧ rng t.pos ∧ rng t.ty.kind ∧ rng t.ref ∧ rng t.up ∧ ∀ p ∈ l, p) t
theorem Xqd (t : Nd) : okNd t = (rng t.kind ∧ rng t.num ∧ rng t.pos ∧ rng t.ty.kind ∧ rng t.ref ∧ rng t.up ∧ ∀ p ∈ t.kids.map okNd, p) := Xja _ t
theorem Zpa {t k : Nd} (h : okNd t) (hk : k ∈ t.kids) : okNd k := by
 rw [Xqd] at h; exact h.2.2.2.2.2.2 _ (List.mem_map_of_mem hk)
def weight (t : Nd) : Nat := para (fun t l => 1 + t.text.length + l.sum) t
theorem Zcd (t : Nd) : weight t = 1 + t.text.length + (t.kids.map weight).sum := Xja _ t
theorem Xxc : ∀ t, count t ≤ weight t := by
 refine Nd.ind fun t ih => ?_
 have : ∀ (l : List Nd), (∀ k ∈ l, count k ≤ weight k) → (l.map count).sum ≤ (l.map weight).sum := by
  intro l
  induction l with
  | nil => intro _; simp
  | cons a l ihl => intro h; have := h a List.mem_cons_self; have := ihl fun k hk => h k (List.mem_cons_of_mem _ hk); simp; omega
 rw [Jx, Zcd]; have := this t.kids ih; omega
end Go.Rk
namespace Go.Rk
open Go.Proofs
open Go Go.RowKit Go.ChangeShapes Go.WideShapes
abbrev bulk {H : Type} : DataW H → Nat := Go.Proofs.YtgfkioikloeaiaaGreatDoor.Rows.uptoBulk
abbrev bulkAll {H : Type} : List (DataW H) → Nat := Go.Proofs.YtgfkioikloeaiaaGreatDoor.Rows.uptoBulkAll
theorem Whb {H : Type} : ∀ (l : List (DataW H)) (d : DataW H), d ∈ l → bulk d ≤ bulkAll l
 | [], d, h => by cases h
 | x :: l, d, h => by
  simp only [bulk, bulkAll, Go.Proofs.YtgfkioikloeaiaaGreatDoor.Rows.uptoBulkAll]
  rcases List.mem_cons.1 h with rfl | h
  ·omega
  ·have := Whb l d h; simp only [bulk, bulkAll] at this; omega
theorem Wib {H : Type} : ∀ (l m : List (DataW H)), bulkAll (l ++ m) = bulkAll l + bulkAll m
 | [], m => by simp [bulkAll, Go.Proofs.YtgfkioikloeaiaaGreatDoor.Rows.uptoBulkAll]
 | x :: l, m => by
  have := Wib l m
  simp only [bulkAll, List.cons_append, Go.Proofs.YtgfkioikloeaiaaGreatDoor.Rows.uptoBulkAll] at this ⊢; omega
theorem Vfb : PP.underlying 3 = some (.int .i64) := by kernel_rfl
theorem Uhc : PP.underlying 9 = some .string := by kernel_rfl
theorem Xge : PP.cellsOf 3 = 1 := by kernel_rfl
theorem Uic : PP.cellsOf 9 = 1 := by kernel_rfl
noncomputable def fieldsOf' (t : TypeId) : Option (List (Nat × Nat)) := match PP.underlying t with | some (.struct fs) => some (fs.toList.map fun f => (f.type, f.offset)) | _ => none
theorem Ucd {t : TypeId} {L : List (Nat × Nat)} (hL : fieldsOf' t = some L) : ∃ fs, PP.underlying t = some (.struct fs) := by
 unfold fieldsOf' at hL
 split at hL
 ·rename_i fs hfs
  exact ⟨fs, hfs⟩
 ·cases hL
theorem len2 {α : Type} {l : List α} (h : l.length = 2) : ∃ a b, l = [a, b] := by
 match l, h with
 | [a, b], _ => exact ⟨a, b, rfl⟩
theorem len8 {α : Type} {l : List α} (h : l.length = 8) : ∃ a b c d e f g i, l = [a, b, c, d, e, f, g, i] := by
 match l, h with
 | [a, b, c, d, e, f, g, i], _ => exact ⟨a, b, c, d, e, f, g, i, rfl⟩
theorem len9 {α : Type} {l : List α} (h : l.length = 9) : ∃ a b c d e f g i j, l = [a, b, c, d, e, f, g, i, j] := by
 match l, h with
 | [a, b, c, d, e, f, g, i, j], _ => exact ⟨a, b, c, d, e, f, g, i, j, rfl⟩
section
variable {H : Type} {enc : TypeId × Value → H} {w : World} {base : Nat} {sp : Nat → Bool} {held : Bool}
theorem Wjb {t : TypeId} {L : List (Nat × Nat)} (hL : fieldsOf' t = some L) {fuel : Nat} {cs : List Value} {x : DataW H × List MemPlace} (h : DataW.trod enc PP w base sp held fuel t cs = some x) :
  ∃ (xs : List (DataW H × List MemPlace)) (n : Nat), x = (.agg (xs.map (·.1)), xs.flatMap (·.2)) ∧ cs.length = PP.cellsOf t ∧ xs.length = L.length ∧
   ∀ (i ty o : Nat), L[i]? = some (ty, o) → DataW.trod enc PP w base sp held n ty ((cs.drop o).take (PP.cellsOf ty)) = xs[i]? := by
 unfold fieldsOf' at hL
 split at hL
 ·rename_i fs hfs
  injection hL with hL
  obtain ⟨xs, n, rfl, rfl, hl, hxl, hx⟩ := DataW.trod_struct hfs h
  refine ⟨xs, n, rfl, hl, by rw [← hL, hxl]; simp, fun i ty o hi => ?_⟩
  rw [← hL, List.getElem?_map] at hi
  cases hq : fs.toList[i]? with
  | none => rw [hq] at hi; cases hi
  | some f =>
   rw [hq] at hi
   simp only [Option.map_some, Option.some.injEq, Prod.mk.injEq] at hi
   obtain ⟨rfl, rfl⟩ := hi
   exact hx i f (by rw [← Array.getElem?_toList]; exact hq)
 ·cases hL
theorem Zqc {z : Int} (h : (Lit.int .i64 z).wf = true) : rng z := by
 simp only [Lit.wf, Bool.and_eq_true, decide_eq_true_eq] at h
 exact h
theorem Vke : fieldsOf' 24 = some [(3, 0), (9, 1)] := by kernel_rfl
theorem Jie : PP.cellsOf 24 = 2 := by kernel_rfl
theorem Jje {fuel : Nat} {cs : List Value} {x : DataW H × List MemPlace} (h : DataW.trod enc PP w base sp held fuel 24 cs = some x) : ∃ y : Ty, cs = tyCells y ∧ rng y.kind ∧ y.name.length + 1 ≤ bulk x.1 := by
 obtain ⟨xs, n, rfl, hl, hxl, hx⟩ := Wjb Vke h
 rw [Jie] at hl
 have h0 := hx 0 _ _ rfl
 have h1 := hx 1 _ _ rfl
 rw [Xge] at h0
 rw [Uic] at h1
 obtain ⟨v0, v1, rfl⟩ := len2 hl
 obtain ⟨y0, y1, rfl⟩ := len2 hxl
 ·skip
  simp only [List.drop_zero, List.take_succ_cons, List.take_zero, List.drop_succ_cons, List.getElem?_cons_zero, List.getElem?_cons_succ] at h0 h1
  obtain ⟨z0, c0, rfl, w0⟩ := DataW.trod_int Vfb h0
  obtain ⟨s1, c1, rfl, _⟩ := DataW.trod_string Uhc h1
  injection c0 with c0 _
  injection c1 with c1 _
  subst c0 c1
  refine ⟨⟨z0, s1.data.toList⟩, rfl, Zqc w0, ?_⟩
  simp [bulk, Go.Proofs.YtgfkioikloeaiaaGreatDoor.Rows.uptoBulk, Go.Proofs.YtgfkioikloeaiaaGreatDoor.Rows.uptoBulkAll]; omega
theorem Zrc : fieldsOf' 26 = some [(3, 0), (9, 1), (3, 2), (3, 3), (22, 4), (24, 5), (3, 7), (3, 8)] := by kernel_rfl
theorem Jke : PP.cellsOf 26 = 9 := by kernel_rfl
theorem Whf : PP.cellsOf 22 = 1 := by kernel_rfl
theorem Wif : PP.underlying 22 = some (.slice 26) := by kernel_rfl
theorem Zdd {w : World} {b : Nat} {D : Nat → Prop} : ∀ (l : List Nd) (o : Nat), (∀ i, (h : i < l.length) → ∃ v, RowAt w b (o + i * 9) (ndCells l[i] v) ∧ Kd w D l[i].kids v) → ∃ xs, RowAt w b o xs ∧ KRow w D l xs
 | [], o, _ => ⟨[], fun j v hj => by simp at hj, rfl⟩
 | t :: l, o, h => by
  obtain ⟨v0, h0, k0⟩ := h 0 (by simp)
  obtain ⟨xs, ih, kx⟩ := Zdd l (o + 9) (fun i hi => by
   obtain ⟨v, h1, h2⟩ := h (i + 1) (by simpa using hi)
   rw [show o + (i + 1) * 9 = o + 9 + i * 9 by omega] at h1
   exact ⟨v, by simpa using h1, by simpa using h2⟩)
  refine ⟨ndCells t v0 ++ xs, fun j v hj => ?_, Uh (by simpa using k0) kx⟩
  by_cases hj9 : j < 9
  ·rw [List.getElem?_append_left (by simpa [ndCells] using hj9)] at hj
   exact h0 j v (by simpa using hj)
  ·rw [List.getElem?_append_right (by simp [ndCells]; omega)] at hj
   have := ih (j - 9) v (by simpa [ndCells] using hj)
   rw [show o + 9 + (j - 9) = o + j by omega] at this
   exact this
theorem Wjf : ∀ (N fuel : Nat) (cs : List Value) (x : DataW H × List MemPlace), bulk x.1 ≤ N → DataW.trod enc PP w base sp held fuel 26 cs = some x →
  ∃ (t : Nd) (v : Value), cs = ndCells t v ∧ Kd w (fun _ => True) t.kids v ∧ okNd t ∧ weight t ≤ bulk x.1 := by
 intro N
 induction N with
 | zero =>
  intro fuel cs x hb h
  obtain ⟨xs, n, rfl, _⟩ := Wjb Zrc h
  simp [bulk, Go.Proofs.YtgfkioikloeaiaaGreatDoor.Rows.uptoBulk] at hb
 | succ N ih =>
  intro fuel cs x hb h
  obtain ⟨xs, n, rfl, hl, hxl, hx⟩ := Wjb Zrc h
  rw [Jke] at hl
  have h0 := hx 0 _ _ rfl
  have h1 := hx 1 _ _ rfl
  have h2 := hx 2 _ _ rfl
  have h3 := hx 3 _ _ rfl
  have h4 := hx 4 _ _ rfl
  have h5 := hx 5 _ _ rfl
  have h6 := hx 6 _ _ rfl
  have h7 := hx 7 _ _ rfl
  rw [Xge] at h0 h2 h3 h6 h7
  rw [Uic] at h1
  rw [Whf] at h4
  rw [Jie] at h5
  obtain ⟨v0, v1, v2, v3, v4, v5, v5', v6, v7, rfl⟩ := len9 hl
  obtain ⟨y0, y1, y2, y3, y4, y5, y6, y7, rfl⟩ := len8 hxl
  ·skip
   simp only [List.drop_zero, List.take_succ_cons, List.take_zero, List.drop_succ_cons, List.getElem?_cons_zero, List.getElem?_cons_succ] at h0 h1 h2 h3 h4 h5 h6 h7
   obtain ⟨z0, c0, rfl, w0⟩ := DataW.trod_int Vfb h0
   obtain ⟨s1, c1, rfl, _⟩ := DataW.trod_string Uhc h1
   obtain ⟨z2, c2, rfl, w2⟩ := DataW.trod_int Vfb h2
   obtain ⟨z3, c3, rfl, w3⟩ := DataW.trod_int Vfb h3
   obtain ⟨z6, c6, rfl, w6⟩ := DataW.trod_int Vfb h6
   obtain ⟨z7, c7, rfl, w7⟩ := DataW.trod_int Vfb h7
   obtain ⟨y, cy, wy, _⟩ := Jje h5
   injection c0 with c0 _; injection c1 with c1 _; injection c2 with c2 _; injection c3 with c3 _; injection c6 with c6 _; injection c7 with c7 _
   simp only [tyCells, List.cons.injEq, and_true] at cy
   obtain ⟨cy1, cy2⟩ := cy
   subst c0 c1 c2 c3 c6 c7 cy1 cy2
   have hb4 : bulk y4.1 ≤ N := by
    simp only [bulk, Go.Proofs.YtgfkioikloeaiaaGreatDoor.Rows.uptoBulk, Go.Proofs.YtgfkioikloeaiaaGreatDoor.Rows.uptoBulkAll, List.map_cons, List.map_nil] at hb ⊢; omega
   have done : ∀ (ks : List Nd), Kd w (fun _ => True) ks v4 → (∀ k ∈ ks, okNd k) → (ks.map weight).sum ≤ bulk y4.1 →
     ∃ (t : Nd) (v : Value), [Value.int .i64 z0, .string s1, .int .i64 z2, .int .i64 z3, v4, .int .i64 y.kind, Str y.name, .int .i64 z6, .int .i64 z7] = ndCells t v ∧ Kd w (fun _ => True) t.kids v ∧ okNd t ∧ weight t ≤ bulk (DataW.agg (List.map (·.1) [((.lit (.int .i64 z0) : DataW H), ([] : List MemPlace)), (.lit (.string s1.data.toList), []), (.lit (.int .i64 z2), []), (.lit (.int .i64 z3), []), y4, y5, (.lit (.int .i64 z6), []), (.lit (.int .i64 z7), [])])) := by
    intro ks hk hok hc
    refine ⟨.mk z0 s1.data.toList z2 z3 ks y z6 z7, v4, rfl, hk, ?_, ?_⟩
    ·rw [Xqd]
     refine ⟨Zqc w0, Zqc w2, Zqc w3, wy, Zqc w6, Zqc w7, fun p hp => ?_⟩
     obtain ⟨k, hk1, rfl⟩ := List.mem_map.1 hp
     exact hok k hk1
    ·rw [Zcd]
     simp only [bulk, Go.Proofs.YtgfkioikloeaiaaGreatDoor.Rows.uptoBulk, Go.Proofs.YtgfkioikloeaiaaGreatDoor.Rows.uptoBulkAll, List.map_cons, List.map_nil] at hc ⊢
     show 1 + s1.data.toList.length + (ks.map weight).sum ≤ _
     omega
   rcases Go.Deep.open_slice Wif h4 with ⟨e4, rfl⟩ | ⟨a, len, cap, m, n', D, Pl, e4, hba, hlc, hcm, hmm, rfl, hxs⟩
   ·injection e4 with e4 _
    subst e4
    exact done [] (Wza w _) (fun k hk => by cases hk) (Nat.zero_le _)
   ·injection e4 with e4 _
    subst e4
    have hlm : len ≤ m := by rw [hmm]; split <;> omega
    rw [Jke] at hxs
    have hle : bulkAll ((List.range len).map D) + 1 ≤ bulk (DataW.slice ((List.range len).map D) ((List.range (m - len)).map fun j => D (len + j))) := by
     simp only [bulk, bulkAll, Go.Proofs.YtgfkioikloeaiaaGreatDoor.Rows.uptoBulk]; omega
    have build : ∀ k, k ≤ len → ∃ l : List Nd, l.length = k ∧ (∀ i, (h : i < l.length) → ∃ v, w.cells? base (a.add (i * 9)) 9 = some (ndCells l[i] v) ∧ Kd w (fun _ => True) l[i].kids v) ∧ (∀ t ∈ l, okNd t) ∧ (l.map weight).sum ≤ bulkAll ((List.range k).map D) := by
     intro k
     induction k with
     | zero => intro _; exact ⟨[], rfl, fun i hi => by simp at hi, fun t ht => (by cases ht), Nat.zero_le _⟩
     | succ k ihk =>
      intro hk
      obtain ⟨l, hl1, hl2, hl3, hl4⟩ := ihk (by omega)
      obtain ⟨cs', q1, q2⟩ := hxs k (by omega)
      have hbk : bulk (D k) ≤ N := by
       have := Whb ((List.range len).map D) (D k) (List.mem_map_of_mem (List.mem_range.2 (by omega)))
       simp only [] at hb4; omega
      obtain ⟨t, v, rfl, kt, ot, ct⟩ := ih n' cs' _ hbk q2
      refine ⟨l ++ [t], by simp [hl1], fun i hi => ?_, fun u hu => ?_, ?_⟩
      ·by_cases hik : i < l.length
       ·obtain ⟨v', e1, e2⟩ := hl2 i hik
        rw [List.getElem_append_left hik]; exact ⟨v', e1, e2⟩
       ·have hi' : i = l.length := by simp at hi; omega
        subst hi'
        rw [List.getElem_append_right (Nat.le_refl _)]
        simp only [Nat.sub_self, List.getElem_cons_zero]
        exact ⟨v, by rw [hl1]; exact q1, kt⟩
      ·rcases List.mem_append.1 hu with hu | hu
       ·exact hl3 u hu
       ·rw [List.mem_singleton.1 hu]; exact ot
      ·rw [List.range_succ, List.map_append, List.map_append, List.sum_append, Wib]
       have : bulkAll (List.map D [k]) = bulk (D k) := by simp [bulkAll, bulk, Go.Proofs.YtgfkioikloeaiaaGreatDoor.Rows.uptoBulkAll]
       rw [this]; simp only [List.map_cons, List.map_nil, List.sum_cons, List.sum_nil]; simp only [] at ct; omega
    obtain ⟨l, hl1, hl2, hl3, hl4⟩ := build len (Nat.le_refl _)
    refine done l ⟨some a, cap, by rw [hl1], by rw [hl1]; exact hlc, fun hpos => ?_⟩ hl3 (by simp only [] at hl4 hle ⊢; omega)
    obtain ⟨v0, h0, _⟩ := hl2 0 hpos
    obtain ⟨_, _, hc0⟩ := World.cells?_some h0
    have hc := hc0 0 (by omega)
    have hsp : a.spot = none := by
     cases hq : a.spot with
     | none => rfl
     | some y =>
      have : w.cell? ((a.add (0 * 9)).add 0) = none := by
       unfold World.cell?
       split
       ·simp [Addr.add, hq]
       ·rfl
      rw [this] at hc; simp [ndCells] at hc
    have ha : a = ⟨a.block, a.off, none⟩ := by cases a; simp only at hsp; rw [hsp]
    obtain ⟨xs', r1, r2⟩ := Zdd (w := w) (b := a.block) (D := fun _ => True) l a.off (fun i hi => by
     obtain ⟨v, e1, e2⟩ := hl2 i hi
     refine ⟨v, ?_, e2⟩
     obtain ⟨_, _, hci⟩ := World.cells?_some e1
     intro j u hj
     have hj9 : j < 9 := by have := (List.getElem?_eq_some_iff.mp hj).1; simpa [ndCells] using this
     have := hci j hj9
     rw [hj] at this
     rw [← this]
     congr 1
     rw [ha, Addr.add_lit, Addr.add_lit])
    exact ⟨a.block, a.off, by rw [ha], trivial, xs', r1, r2⟩
set_option maxRecDepth 100000 in
theorem Zke {r : Reach} {b0 : Nat} {v : Value} {d : DataW H} {p : List MemPlace} (hv : Value.okWide PP w r b0 26 v) (h : DataW.Trod enc PP w base sp held 26 v d p) : ∃ (t : Nd) (u : Value), v = ndV t u ∧ Kd w (fun _ => True) t.kids u ∧ okNd t ∧ weight t ≤ bulk d := by
 obtain ⟨fs, hfs⟩ := Ucd Zrc
 obtain ⟨cs, rfl, _⟩ := okWide_struct hfs hv
 obtain ⟨fuel, hf⟩ := h
 obtain ⟨t, u, ht, h1, h2, h3⟩ := Wjf _ fuel _ _ (Nat.le_refl _) hf
 refine ⟨t, u, ?_, h1, h2, h3⟩
 show Value.agg cs = Value.agg (ndCells t u).toArray
 rw [← ht]; simp [Value.cells]
set_option maxRecDepth 100000 in
theorem Vle {r : Reach} {b0 : Nat} {v : Value} {d : DataW H} {p : List MemPlace} (hv : Value.okWide PP w r b0 26 v) (h : DataW.Trod enc PP w base sp held 26 v d p) : ∃ (t : Nd) (u : Value), v = ndV t u ∧ Kd w (fun _ => True) t.kids u ∧ okNd t ∧ count t ≤ bulk d := by
 obtain ⟨t, u, h1, h2, h3, h4⟩ := Zke hv h
 exact ⟨t, u, h1, h2, h3, Nat.le_trans (Xxc t) h4⟩
end
end Go.Rk
namespace Go.Rk
open Go.Proofs
open Go Go.RowKit
section
variable {α : Type} {f : α → List Value} {z : Nat}
theorem Wkb (hf : ∀ a, (f a).length = z) : ∀ (l : List α), (l.flatMap f).length = l.length * z
 | [] => by simp
 | a :: l => by rw [List.flatMap_cons, List.length_append, hf, Wkb hf l, List.length_cons, Nat.succ_mul, Nat.add_comm]
theorem Xhe (hf : ∀ a, (f a).length = z) : ∀ (l : List α) (i : Nat) (h : i < l.length), ((l.flatMap f).drop (i * z)).take z = f l[i]
 | [], _, h => by cases h
 | a :: l, 0, _ => by
  rw [List.flatMap_cons, Nat.zero_mul, List.drop_zero, List.take_append_of_le_length (by rw [hf]; exact Nat.le_refl _), List.take_of_length_le (by rw [hf]; exact Nat.le_refl _)]; rfl
 | a :: l, i + 1, h => by
  have e : (((a :: l).flatMap f)).drop ((i + 1) * z) = (l.flatMap f).drop (i * z) := by
   rw [List.flatMap_cons, Nat.succ_mul, Nat.add_comm, ← List.drop_drop]
   congr 1
   rw [← hf a, List.drop_left]
  rw [e]; exact Xhe hf l i (by simpa using h)
def RowF (f : α → List Value) (w : World) (l : List α) (v : Value) : Prop :=
 ∃ p c, v = .slice p l.length c ∧ l.length ≤ c ∧ (0 < l.length → ∃ b o, p = some ⟨b, o, none⟩ ∧ RowAt w b o (l.flatMap f))
theorem RowF.grow {w w' : World} {l : List α} {v : Value} (h : RowF f w l v) (g : G w w') : RowF f w' l v := by
 obtain ⟨p, c, rfl, hc, h⟩ := h
 refine ⟨p, c, rfl, hc, fun h0 => ?_⟩
 obtain ⟨b, o, rfl, hR⟩ := h h0
 exact ⟨b, o, rfl, hR.grow g⟩
theorem Ujc (w : World) : RowF f w [] (.slice none 0 0) := ⟨none, 0, rfl, Nat.le_refl _, fun h => absurd h (Nat.lt_irrefl 0)⟩
theorem Jle {w : World} {base : Nat} {e : TypeId} {v : Value} {m : Nat} {l : List α} (h : w.ownsRow base e z v m (l.flatMap f)) (hm : m = l.length) : RowF f w l v := by
 subst hm
 obtain ⟨a, c, rfl, hc⟩ := Zxb h
 refine ⟨a, c, rfl, hc, fun h0 => ?_⟩
 obtain ⟨b, c', hv, _, hR, _⟩ := Qqa h h0
 injection hv with hv _ _
 subst hv
 exact ⟨b, 0, rfl, hR⟩
theorem Wcc (hf : ∀ a, (f a).length = z) {w : World} {b o : Nat} {l : List α} (h : RowAt w b o (l.flatMap f)) {i : Nat} (hi : i < l.length) : RowAt w b (o + i * z) (f l[i]) := by
 have := h.part (i * z) z
 rwa [Xhe hf l i hi] at this
end
/-! loops that carry facts on the world -/
def BlkE (b : Nat) (e : TypeId) (l : List Value) (w : World) : Prop := Blk w b e l
def andE (p q : World → Prop) (w : World) : Prop := p w ∧ q w
def nilE (w : World) : Prop := True
theorem blkE {w : World} {b : Nat} {e : TypeId} {l : List Value} (h : Blk w b e l) : BlkE b e l w := h
theorem Xr {p q : World → Prop} {w : World} (h : p w) (k : q w) : andE p q w := ⟨h, k⟩
theorem Ua (w : World) : nilE w := trivial
section
variable {P : Program} {n : Nat} {N T : Act → World → Prop} {X : List (Nat × (Act → World → Prop))} {σ : List Ent} {w : World}
theorem Jy {c : Code} {α : Type} (I : α → World → Prop) (E : World → Prop) (σc : List Ent) (σf : α → List Ent) (μ : α → Nat) (x0 : α) (h0 : I x0 w) (hE : E w) (hs : Sub (σf x0 ++ σc) σ)
  (round : ∀ x w, I x w → E w → SC P n c (fun a' w' => ∃ y, Kn n (σf y ++ σc) a' ∧ I y w' ∧ E w' ∧ μ y < μ x) X T (σf x ++ σc) w) : SC P n (.loop c) N X T σ w := by
 refine Qmb (fun x w => I x w ∧ E w) (fun x => σf x ++ σc) μ x0 ⟨h0, hE⟩ hs fun x w ⟨h1, h2⟩ => ?_
 refine fun a ha => Code.wp_mono (fun e a w q => ?_) (round x w h1 h2 a ha)
 cases e with
 | normal => obtain ⟨y, q1, q2, q3, q4⟩ := q; exact ⟨y, q1, ⟨q2, q3⟩, q4⟩
 | _ => exact q
end
theorem Zsc {w : World} {D : Nat → Prop} : ∀ {ls : List Nd} {news : List Value}, KRow w D ls news → onesB news = true
 | [], news, h => by rw [show news = [] from h]; rfl
 | t :: ls, news, h => by
  obtain ⟨v, r, rfl, hkn, hr⟩ := h
  rw [Ugc] at hkn
  obtain ⟨p, c, rfl, _⟩ := hkn
  have := Zsc hr
  unfold onesB at this ⊢
  rw [List.all_append, this, Bool.and_true]; rfl
/-! own rows -/
theorem Xie {w : World} {base b : Nat} {e : TypeId} {z m : Nat} {l : List Value} (h : Blk w b e l) (hb : base ≤ b) (hl : l.length = m * z) (hm : m ≤ 1000000) : w.ownsRow base e z (.slice (some ⟨b, 0, none⟩) m m) m l :=
 ⟨hl, .inr ⟨b, m, l.toArray, rfl, hb, h, Nat.le_refl _, by simp only [maxLen]; omega, by simpa using hl, by simp [← hl]⟩⟩
def Dx (base : Nat) (X : List Nat) (b : Nat) : Prop := base ≤ b ∧ b ∉ X
def OwnK (e : TypeId) (D : Nat → Prop) (base : Nat) (w : World) (ks : List Nd) (s : Value) : Prop :=
 ∃ xs, w.ownsRow base e 9 s ks.length xs ∧ KRow w (fun b => D b ∧ some b ≠ s.ownBlock) ks xs ∧ ∀ b, s.ownBlock = some b → D b
section
variable {e : TypeId} {D : Nat → Prop} {base : Nat} {w w' : World} {ks : List Nd} {s : Value}
theorem Udd (e : TypeId) (D : Nat → Prop) (base : Nat) (w : World) : OwnK e D base w [] (.slice none 0 0) := ⟨[], Wna _ _ _ _, Vzd, fun b h => by cases h⟩
theorem OwnK.slice (h : OwnK e D base w ks s) : ∃ a c, s = .slice a ks.length c := by
 obtain ⟨xs, h1, _⟩ := h
 obtain ⟨a, c, h2, _⟩ := Zxb h1
 exact ⟨a, c, h2⟩
theorem OwnK.ge (h : OwnK e D base w ks s) : ∀ k, s.ownBlock = some k → base ≤ k := by
 obtain ⟨xs, h1, _⟩ := h
 exact fun k hk => (h1.lt k hk).1
theorem OwnK.lt (h : OwnK e D base w ks s) : ∀ k, s.ownBlock = some k → k < w.heap.size := by
 obtain ⟨xs, h1, _⟩ := h
 exact fun k hk => (h1.lt k hk).2
theorem OwnK.ne (h : OwnK e D base w ks s) {b : Nat} (hb : ¬ D b) : some b ≠ s.ownBlock := by
 obtain ⟨xs, _, _, h3⟩ := h
 exact fun he => hb (h3 b he.symm)
theorem OwnK.grow (h : OwnK e D base w ks s) (g : G w w') : OwnK e D base w' ks s := by
 obtain ⟨xs, h1, h2, h3⟩ := h
 exact ⟨xs, Us h1 g, h2.grow g, h3⟩
theorem OwnK.keep (h : OwnK e D base w ks s) {b : Nat} (hg : w.grownBy w' (some b)) (hb : ¬ D b) : OwnK e D base w' ks s := by
 obtain ⟨xs, h1, h2, h3⟩ := h
 refine ⟨xs, Vy h1 hg (.inr fun he => hb (h3 b he)), h2.keep hg fun k hk _ he => ?_, h3⟩
 injection he with he
 exact hb (he ▸ hk.1)
theorem OwnK.kd (h : OwnK e D base w ks s) {D' : Nat → Prop} (hD : ∀ b, D b → D' b) : Kd w D' ks s := by
 obtain ⟨xs, h1, h2, h3⟩ := h
 exact Jhf h1 rfl (h2.mono fun b hb _ => hD b hb.1) fun b hb => hD b (h3 b hb)
theorem Vqa {b : Nat} {t : Nd} {v : Value} (h : Blk w b e (ndCells t v)) (hb : base ≤ b) (hk : Kd w (fun k => D k ∧ k ≠ b) t.kids v) (hD : D b) : OwnK e D base w [t] (.slice (some ⟨b, 0, none⟩) 1 1) := by
 refine ⟨_, Xie h hb J (by decide), Wp (hk.mono fun k hk _ => ⟨hk.1, fun he => ?_⟩), fun k hk => ?_⟩
 ·injection he with he; exact hk.2 he
 ·injection hk with hk; exact hk ▸ hD
theorem OwnK.append {ls : List Nd} {news : List Value} {a' : Option Addr} {c' : Nat} {xs : List Value} (h : OwnK e D base w ks s) (hx : w.ownsRow base e 9 s ks.length xs) (hX : KRow w (fun b => D b ∧ some b ≠ s.ownBlock) ks xs)
  (hn : KRow w (fun b => D b ∧ some b ≠ s.ownBlock) ls news) (hD : D w.heap.size) (ho : w'.ownsRow base e 9 (.slice a' (ks.length + ls.length) c') (ks.length + ls.length) (xs ++ news)) (hg : w.grownBy w' s.ownBlock)
  (hat : (Value.slice a' (ks.length + ls.length) c').ownBlock = s.ownBlock ∨ (Value.slice a' (ks.length + ls.length) c').ownBlock = some w.heap.size) : OwnK e D base w' (ks ++ ls) (.slice a' (ks ++ ls).length c') := by
 have hlen : (ks ++ ls).length = ks.length + ls.length := by simp
 refine ⟨xs ++ news, by rw [hlen]; exact ho, ?_, ?_⟩
 ·have h1 := Wgb hX hn
  rw [hlen]
  refine Yia (fun b hb hlt => ⟨hb.1, ?_⟩) (fun b hb hlt => hg.block b hlt hb.2) _ _ h1
  rcases hat with he | he <;> rw [he]
  ·exact hb.2
  ·intro e; injection e with e; omega
 ·rw [hlen]
  intro b hb
  rcases hat with he | he <;> rw [he] at hb
  ·obtain ⟨_, _, _, h3⟩ := h; exact h3 b hb
  ·injection hb with hb; exact hb ▸ hD
end
section
variable {P : Program} {Z : List PanicEntry → Act → World → Prop} {ops : List Oper} {cl : List Nat} {lv : List Bool} {W0 : World} {n : Nat} {K : Act → World → Prop} {k : Nat} {rest : List Oper} {σ : List Ent} {w : World} {d : Nat} {ty : TypeId} {pos : String} {after : Array Edge}
theorem Zle {t e base q q' : Nat} {x y : Operand} {s zv : Value} {news : List Value} {b' o' : Nat} {D : Nat → Prop} {ks ls : List Nd} (hb : (Nat.beq (clOf cl k) 2 && Nat.blt d n) = true) (ht : tyElem P t = some (e, 9, 104)) (hzv : zeroOf P e = some zv)
  (hzs : zv.cells.size = 9) (hx : Ev n σ True x s) (hO : OwnK e D base w ks s) (hy : Ev n σ True y (.slice (some ⟨b', o', none⟩) q q')) (hq : ls.length = q) (hn : RowAt w b' o' news) (hK : KRow w (fun b => D b ∧ some b ≠ s.ownBlock) ls news)
  (hlen : ks.length + ls.length ≤ 10000000) (hbase : base ≤ w.heap.size) (hD : D w.heap.size)
  (h : ∀ a' c' w', OwnK e D base w' (ks ++ ls) (.slice a' (ks ++ ls).length c') → w.grownBy w' s.ownBlock → SR P Z ops cl lv W0 n K (k + 1) rest ((d, True, .slice a' (ks ++ ls).length c') :: σ) w') :
  SR P Z ops cl lv W0 n K k (⟨some d, .call { callee := .builtin .append, args := #[x, y], argTypes := #[t, t] }, ty, pos, after, none⟩ :: rest) σ w := by
 obtain ⟨xs, h1, h2, h3⟩ := id hO
 subst hq
 have ones := Zsc hK
 refine Ysa hb ht hzv hzs (by decide) hx h1 hy (Qsa hK) hn ones (by simp only [maxLen]; omega) (by omega) hbase fun a' c' w' ho hg hat => ?_
 have := h a' c' w' (hO.append h1 h2 hK hD ho hg hat) hg
 rwa [List.length_append] at this
end
def TyR (M : Nat → Bool) (w : World) (k : Nat) : Prop := ∃ cs e fr, w.heap[k]? = some (.cells cs e fr) ∧ M e = true
structure GT (M : Nat → Bool) (n0 : Nat) (w w' : World) : Prop where
 os : w'.os = w.os
 tape : w'.tape = w.tape
 output : w'.output = w.output
 size : w.heap.size ≤ w'.heap.size
 block : ∀ k, k < w.heap.size → (k < n0 ∨ ¬ TyR M w k) → w'.heap[k]? = w.heap[k]?
section
variable {M : Nat → Bool} {n0 : Nat}
theorem GT.refl (M : Nat → Bool) (n0 : Nat) (w : World) : GT M n0 w w := ⟨rfl, rfl, rfl, Nat.le_refl _, fun _ _ _ => rfl⟩
theorem GT.trans {u v w : World} (h : GT M n0 u v) (k : GT M n0 v w) : GT M n0 u w :=
 ⟨k.os.trans h.os, k.tape.trans h.tape, k.output.trans h.output, Nat.le_trans h.size k.size, fun i hi hb => by
  have e := h.block i hi hb
  refine (k.block i (Nat.lt_of_lt_of_le hi h.size) (hb.imp id fun hb hr => hb ?_)).trans e
  obtain ⟨cs, f, fr, hr, hm⟩ := hr
  exact ⟨cs, f, fr, e.symm.trans hr, hm⟩⟩
theorem GT.of_g {w w' : World} (h : G w w') : GT M n0 w w' := ⟨h.os, h.tape, h.output, h.size, fun k hk _ => h.block hk⟩
theorem gtd {a w : World} (g : GT M n0 a w) : GT M n0 a w.drew := g.trans (GT.of_g (G.drew _))
theorem gtg {a w w' : World} (g : GT M n0 a w) (h : G w w') : GT M n0 a w' := g.trans (GT.of_g h)
theorem GT.mono {n1 : Nat} {w w' : World} (h : GT M n1 w w') (hn : n0 ≤ n1) : GT M n0 w w' := ⟨h.os, h.tape, h.output, h.size, fun k hk hb => h.block k hk (hb.imp (fun hb => Nat.lt_of_lt_of_le hb hn) id)⟩
theorem Ued {w0 w w' : World} (g : G w0 w) (h : GT M n0 w w') (hn : w0.heap.size ≤ n0) : G w0 w' :=
 ⟨h.os.trans g.os, h.tape.trans g.tape, h.output.trans g.output, Nat.le_trans g.size h.size, fun k hk => (h.block k (Nat.lt_of_lt_of_le hk g.size) (.inl (by omega))).trans (g.block hk)⟩
theorem Qj {w0 w w' : World} {row : Option Nat} (h : GT M n0 w0 w) (hg : w.grownBy w' row) (hr : ∀ k, row = some k → w0.heap.size ≤ k) : GT M n0 w0 w' :=
 ⟨hg.os.trans h.os, hg.tape.trans h.tape, hg.output.trans h.output, Nat.le_trans h.size hg.size, fun k hk hb => (hg.block k (Nat.lt_of_lt_of_le hk h.size) (fun e => by have := hr k e.symm; omega)).trans (h.block k hk hb)⟩
theorem Zy {w0 w w' : World} {j : Nat} (h : GT M n0 w0 w) (hg : w.grownBy w' (some j)) (hj : w0.heap.size ≤ j) : GT M n0 w0 w' :=
 Qj h hg fun k hk => by injection hk with hk; omega
theorem Jme {w0 w w' : World} {row : Option Nat} (h : GT M n0 w0 w) (hg : w.grownBy w' row) (hr : ∀ k, row = some k → n0 ≤ k ∧ TyR M w k) : GT M n0 w0 w' :=
 ⟨hg.os.trans h.os, hg.tape.trans h.tape, hg.output.trans h.output, Nat.le_trans h.size hg.size, fun k hk hb => (hg.block k (Nat.lt_of_lt_of_le hk h.size) (fun e => by
  obtain ⟨h1, h2⟩ := hr k e.symm
  rcases hb with hb | hb
  ·omega
  ·obtain ⟨cs, f, fr, h3, h4⟩ := h2
   exact hb ⟨cs, f, fr, (h.block k hk (.inr hb)).symm.trans h3, h4⟩)).trans (h.block k hk hb)⟩
theorem Xje {w : World} {b : Nat} {e : TypeId} {l : List Value} (h : Blk w b e l) (he : M e = true) : TyR M w b := ⟨_, _, _, h, he⟩
theorem Ufd {w : World} {b : Nat} {e : TypeId} {l : List Value} (h : Blk w b e l) (he : M e = false) : ¬ TyR M w b := fun ⟨cs, f, fr, hr, hm⟩ => by
 unfold Blk at h
 rw [h] at hr; injection hr with hr; injection hr with _ hr; subst hr; rw [he] at hm; cases hm
theorem Vgb {w : World} {e : TypeId} {z m : Nat} {v : Value} {xs : List Value} (h : w.ownsRow n0 e z v m xs) (he : M e = true) : ∀ k, v.ownBlock = some k → n0 ≤ k ∧ TyR M w k := fun k hk => by
 rcases h.2 with ⟨h1, _⟩ | ⟨g, cap, cur, h1, h2, h3, _⟩
 ·rw [h1] at hk; cases hk
 ·rw [h1] at hk
  have : g = k := by injection hk
  subst this
  exact ⟨h2, _, _, _, h3, he⟩
theorem Yja {w0 w w' : World} {b : Nat} {e : TypeId} {l : List Value} (h : GT M n0 w0 w) (hg : w.grownBy w' (some b)) (hB : Blk w b e l) (he : M e = true) (hb : n0 ≤ b) : GT M n0 w0 w' :=
 Jme h hg fun k hk => by injection hk with hk; subst hk; exact ⟨hb, Xje hB he⟩
theorem Jne {w0 w w' : World} {e : TypeId} {z m : Nat} {v : Value} {xs : List Value} (h : GT M n0 w0 w) (hO : w.ownsRow n0 e z v m xs) (he : M e = true) (hg : w.grownBy w' v.ownBlock) : GT M n0 w0 w' :=
 Jme h hg (Vgb hO he)
theorem Blk.gt {j : Nat} {w w' : World} {e : TypeId} {l : List Value} (h : Blk w j e l) (g : GT M n0 w w') (he : M e = false) : Blk w' j e l :=
 (g.block j h.lt (.inr (Ufd h he))).trans h
theorem Obk.gt {w w' : World} {L : List (Nat × TypeId × List Value)} (E : Obk w L) (g : GT M n0 w w') (ht : (L.all fun x => !M x.2.1) = true) : Obk w' L :=
 ⟨E.1, Una E.2 fun b e l hm h => h.gt g (by simpa using List.all_eq_true.1 ht _ hm)⟩
theorem Kd.gt {w w' : World} {D : Nat → Prop} {ks : List Nd} {v : Value} (h : Kd w D ks v) (g : GT M n0 w w') (hD : ∀ k, D k → k < n0) : Kd w' D ks v :=
 Yaa h (fun _ h _ => h) fun k hk hlt => g.block k hlt (.inl (hD k hk))
theorem RowAt.gt {j o : Nat} {w w' : World} {l : List Value} (h : RowAt w j o l) (g : GT M n0 w w') (hj : j < n0) : RowAt w' j o l := fun i v hi => by
 have h1 := h i v hi
 exact (World.cell?_of_block (g.block j (World.block_lt_of_cell? w _ h1) (.inl hj))).trans h1
/-! blocks of nodes -/
def NdR (w : World) (k : Nat) : Prop := ∃ cs fr, w.heap[k]? = some (.cells cs Vd fr)
theorem NdR.lt {w : World} {k : Nat} (h : NdR w k) : k < w.heap.size := by
 obtain ⟨cs, fr, h⟩ := h
 exact (Array.getElem?_eq_some_iff.1 h).1
theorem Ug {w : World} {b : Nat} {l : List Value} (h : Blk w b Vd l) : NdR w b := ⟨_, _, h⟩
theorem NdR.same {w w' : World} {k : Nat} (h : NdR w k) (e : w'.heap[k]? = w.heap[k]?) : NdR w' k := by
 obtain ⟨cs, fr, h⟩ := h
 exact ⟨cs, fr, e.trans h⟩
theorem NdR.ntyr {w : World} {k : Nat} (h : NdR w k) (he : M Vd = false) : ¬ TyR M w k := fun ⟨cs, f, fr, hr, hm⟩ => by
 obtain ⟨cs', fr', h⟩ := h
 rw [h] at hr; injection hr with hr; injection hr with _ hr; subst hr; rw [he] at hm; cases hm
theorem NdR.gt {w w' : World} {k : Nat} (h : NdR w k) (g : GT M n0 w w') (he : M Vd = false) : NdR w' k := h.same (g.block k h.lt (.inr (h.ntyr he)))
theorem NdR.grow {w w' : World} {k : Nat} (h : NdR w k) (g : G w w') : NdR w' k := h.same (g.block h.lt)
def KdN (lo : Nat) (w : World) (ks : List Nd) (v : Value) : Prop := Kd w (fun k => lo ≤ k ∧ NdR w k) ks v
theorem KdN.gt {lo : Nat} {w w' : World} {ks : List Nd} {v : Value} (h : KdN lo w ks v) (g : GT M n0 w w') (he : M Vd = false) : KdN lo w' ks v :=
 Yaa h (fun k hk _ => ⟨hk.1, hk.2.gt g he⟩) fun k hk hlt => g.block k hlt (.inr (hk.2.ntyr he))
theorem KdN.grow {lo : Nat} {w w' : World} {ks : List Nd} {v : Value} (h : KdN lo w ks v) (g : G w w') : KdN lo w' ks v :=
 Yaa h (fun k hk _ => ⟨hk.1, hk.2.grow g⟩) fun k hk hlt => g.block hlt
theorem KdN.keep {lo : Nat} {w w' : World} {row : Option Nat} {ks : List Nd} {v : Value} (h : KdN lo w ks v) (hg : w.grownBy w' row) (hr : ∀ k, row = some k → k < lo) : KdN lo w' ks v :=
 Yaa h (fun k hk hlt => ⟨hk.1, hk.2.same (hg.block k hlt fun e => by have := hr k e.symm; omega)⟩) fun k hk hlt => hg.block k hlt fun e => by have := hr k e.symm; omega
theorem KdN.low {lo lo' : Nat} {w : World} {ks : List Nd} {v : Value} (h : KdN lo w ks v) (hl : lo' ≤ lo) : KdN lo' w ks v := Kd.mono h fun k hk _ => ⟨by omega, hk.2⟩
theorem Yka (lo : Nat) (w : World) : KdN lo w [] (.slice none 0 0) := Wza _ _
def RetN (t : Nd) (lo : Nat) (r : Value) (w : World) : Prop := ∃ p c, r = ndV t (.slice p t.kids.length c) ∧ KdN lo w t.kids (.slice p t.kids.length c)
theorem Vhb (t : Nd) (lo : Nat) (w : World) (h : t.kids = []) : RetN t lo (ndV t (.slice none 0 0)) w := ⟨none, 0, by rw [h]; rfl, by rw [h]; exact Yka _ _⟩
theorem Xke {t : Nd} {lo : Nat} {v : Value} {w : World} (h : KdN lo w t.kids v) : RetN t lo (ndV t v) w := by
 obtain ⟨p, c, rfl, h2⟩ := h
 exact ⟨p, c, rfl, p, c, rfl, h2⟩
def OwnN (X : List Nat) (lo : Nat) (w : World) (ks : List Nd) (s : Value) : Prop := OwnK Vd (fun b => Dx lo X b ∧ NdR w b) lo w ks s
section
variable {X : List Nat} {lo : Nat} {w w' : World} {ks : List Nd} {s : Value}
theorem Wlb (X : List Nat) (lo : Nat) (w : World) : OwnN X lo w [] (.slice none 0 0) := Udd _ _ _ _
theorem OwnN.slice (h : OwnN X lo w ks s) : ∃ a c, s = .slice a ks.length c := OwnK.slice h
theorem OwnN.ge (h : OwnN X lo w ks s) : ∀ k, s.ownBlock = some k → lo ≤ k := OwnK.ge h
theorem OwnN.lt (h : OwnN X lo w ks s) : ∀ k, s.ownBlock = some k → k < w.heap.size := OwnK.lt h
theorem OwnN.ne (h : OwnN X lo w ks s) {b : Nat} (hb : b ∈ X) : some b ≠ s.ownBlock := OwnK.ne h fun hd => hd.1.2 hb
theorem OwnN.nd (h : OwnN X lo w ks s) : ∀ k, s.ownBlock = some k → NdR w k := fun k hk => by
 obtain ⟨xs, _, _, h3⟩ := h
 exact (h3 k hk).2
theorem Zjb {e : TypeId} {D D' : Nat → Prop} {base : Nat} (h : OwnK e D base w ks s) (hD : ∀ b, D b → b < w.heap.size → D' b) (hs : ∀ b, D b → b < w.heap.size → w'.heap[b]? = w.heap[b]?) (ho : ∀ xs, w.ownsRow base e 9 s ks.length xs → w'.ownsRow base e 9 s ks.length xs) : OwnK e D' base w' ks s := by
 obtain ⟨xs, h1, h2, h3⟩ := h
 exact ⟨xs, ho xs h1, Yia (fun b hb hlt => ⟨hD b hb.1 hlt, hb.2⟩) (fun b hb hlt => hs b hb.1 hlt) _ _ h2, fun b hb => hD b (h3 b hb) (h1.lt b hb).2⟩
theorem OwnN.grow (h : OwnN X lo w ks s) (g : G w w') : OwnN X lo w' ks s :=
 Zjb h (fun b hb _ => ⟨hb.1, hb.2.grow g⟩) (fun b _ hlt => g.block hlt) fun xs h => Us h g
theorem Joe {e : TypeId} {base z m : Nat} {v : Value} {xs : List Value} (h : w.ownsRow base e z v m xs) (hs : ∀ b, v.ownBlock = some b → w'.heap[b]? = w.heap[b]?) : w'.ownsRow base e z v m xs := by
 refine ⟨h.1, ?_⟩
 rcases h.2 with h1 | ⟨g, cap, cur, h1, h2, h3, h4⟩
 ·exact .inl h1
 ·exact .inr ⟨g, cap, cur, h1, h2, (hs g (by rw [h1]; rfl)).trans h3, h4⟩
theorem OwnN.gt (h : OwnN X lo w ks s) (g : GT M n0 w w') (he : M Vd = false) : OwnN X lo w' ks s := by
 have hn := h.nd
 have hl := h.lt
 exact Zjb h (fun b hb _ => ⟨hb.1, hb.2.gt g he⟩) (fun b hb hlt => g.block b hlt (.inr (hb.2.ntyr he))) fun xs h => Joe h fun b hb => g.block b (hl b hb) (.inr ((hn b hb).ntyr he))
theorem OwnN.keep (h : OwnN X lo w ks s) {b : Nat} (hg : w.grownBy w' (some b)) (hb : b ∈ X) : OwnN X lo w' ks s := by
 have hne := h.ne hb
 refine Zjb h (fun k hk hlt => ⟨hk.1, hk.2.same (hg.block k hlt fun e => by injection e with e; exact hk.1.2 (e ▸ hb))⟩) (fun k hk hlt => hg.block k hlt fun e => by injection e with e; exact hk.1.2 (e ▸ hb)) fun xs h => Vy h hg (.inr fun e => hne e.symm)
theorem OwnN.kd (h : OwnN X lo w ks s) : KdN lo w ks s := OwnK.kd h fun b hb => ⟨hb.1.1, hb.2⟩
end
end
section
variable {P : Program} {Z : List PanicEntry → Act → World → Prop} {ops : List Oper} {cl : List Nat} {lv : List Bool} {W0 : World} {n : Nat} {K : Act → World → Prop} {k : Nat} {rest : List Oper} {σ : List Ent} {w : World} {d : Nat} {ty : TypeId} {pos : String} {after : Array Edge}
theorem Ur {t q q' : Nat} {x y : Operand} {s zv : Value} {news : List Value} {b' o' lo : Nat} {X : List Nat} {ks ls : List Nd} (hb : (Nat.beq (clOf cl k) 2 && Nat.blt d n) = true) (ht : tyElem P t = some (Vd, 9, 104)) (hzv : zeroOf P Vd = some zv)
  (hzs : zv.cells.size = 9) (hx : Ev n σ True x s) (hO : OwnN X lo w ks s) (hy : Ev n σ True y (.slice (some ⟨b', o', none⟩) q q')) (hq : ls.length = q) (hn : RowAt w b' o' news) (hK : KRow w (fun b => (Dx lo X b ∧ NdR w b) ∧ some b ≠ s.ownBlock) ls news)
  (hlen : ks.length + ls.length ≤ 10000000) (hbase : lo ≤ w.heap.size) (hD : Dx lo X w.heap.size)
  (h : ∀ a' c' w', OwnN X lo w' (ks ++ ls) (.slice a' (ks ++ ls).length c') → w.grownBy w' s.ownBlock → SR P Z ops cl lv W0 n K (k + 1) rest ((d, True, .slice a' (ks ++ ls).length c') :: σ) w') :
  SR P Z ops cl lv W0 n K k (⟨some d, .call { callee := .builtin .append, args := #[x, y], argTypes := #[t, t] }, ty, pos, after, none⟩ :: rest) σ w := by
 obtain ⟨xs, h1, h2, h3⟩ := id hO
 subst hq
 have ones := Zsc hK
 refine Ysa hb ht hzv hzs (by decide) hx h1 hy (Qsa hK) hn ones (by simp only [maxLen]; omega) (by omega) hbase fun a' c' w' ho hg hat => ?_
 have hlen' : (ks ++ ls).length = ks.length + ls.length := by simp
 have hnd : ∀ b, (Value.slice a' (ks.length + ls.length) c').ownBlock = some b → NdR w' b := fun b hb => by
  rcases ho.2 with ⟨q1, _⟩ | ⟨g, cap, cur, q1, _, q3, _⟩
  ·rw [q1] at hb; cases hb
  ·rw [q1] at hb
   have : g = b := by injection hb
   subst this
   exact ⟨_, _, q3⟩
 have hO' : OwnN X lo w' (ks ++ ls) (.slice a' (ks ++ ls).length c') := by
  refine ⟨xs ++ news, by rw [hlen']; exact ho, ?_, ?_⟩
  ·rw [hlen']
   refine Yia (fun b hb hlt => ⟨⟨hb.1.1, hb.1.2.same (hg.block b hlt hb.2)⟩, ?_⟩) (fun b hb hlt => hg.block b hlt hb.2) _ _ (Wgb h2 hK)
   rcases hat with he | he <;> rw [he]
   ·exact hb.2
   ·intro e; injection e with e; omega
  ·rw [hlen']
   intro b hb
   refine ⟨?_, hnd b hb⟩
   rcases hat with he | he <;> rw [he] at hb
   ·exact (h3 b hb).1
   ·injection hb with hb; exact hb ▸ hD
 have := h a' c' w' hO' hg
 rwa [List.length_append] at this
end
theorem Ty.ext' {a b : Ty} (h : a.kind = b.kind) (k : a.name = b.name) : a = b := by cases a; cases b; simp_all
def tyEqB (a b : Ty) : Bool := decide (a.kind = b.kind) && (decide (a.name = b.name) && true)
theorem Zed (a b : Ty) : tyEqB a b = true ↔ a = b := by
 unfold tyEqB; simp only [Bool.and_true, Bool.and_eq_true, decide_eq_true_eq]
 exact ⟨fun h => Ty.ext' h.1 h.2, fun h => by rw [h]; exact ⟨rfl, rfl⟩⟩
theorem Zme (a b : Ty) : tyEqB a b = tyEqB b a := by
 rw [Bool.eq_iff_iff, Zed, Zed]; exact eq_comm
def tInt : Ty := ⟨1, []⟩
def tBool : Ty := ⟨2, []⟩
def tNil : Ty := ⟨3, []⟩
def tyValidB (y : Ty) : Bool := bif decide (y.kind = 4) then nameB y.name else (decide (0 ≤ y.kind) && decide (y.kind ≤ 12)) && decide (y.name = [])
def refB (y : Ty) : Bool := bif anyK [4, 5, 6, 7] y.kind then tyValidB y else false
def Qr (y : Ty) : Bool := (tyEqB y tInt || tyEqB y tBool) || refB y
def Ub (to fr : Ty) : Bool := Qr to && (tyEqB fr to || (tyEqB fr tNil && refB to))
def compB (a b : Ty) : Bool := bif tyEqB a tNil || tyEqB b tNil then refB a || refB b
 else bif anyK [1, 2, 4, 6] a.kind then tyEqB a b && tyValidB a else false
theorem Zfd (y : Ty) (w : World) : Ret PP Xfd #[tyV y] w fun v w' => v = .bool (tyValidB y) ∧ G w w' := by
 have g := G.refl w
 refine Yp (m := 22) Vxc J J [(0, True, _)] (Za J (Zj _)) ?_
 refine Ze (Zg (Wq J (Zk J) J ?_))
 intro b1 w1 N1
 have l1 := N1.ge g
 have g := g.trans N1.g
 have E := (Wo _).new N1
 refine Zp J (Zb (kq (Ze (Ze (Zg (Zx Ws J (Yg Zu J (E.g0.at_ J) (Xt J J (Zb (kq (Yv J (fun h1 => ?_) (fun h1 => ?_))))))))))))
 ·(try simp only [Xq] at h1)
  refine Ze (Zg (Zx Jna J (Yg Yr J (E.g0.at_ J) (Xk J (Zo Zna Yo (aqc J aq0) J) (Wqa _ _) (fun w8 g8 => ?_)))))
  have g := g.trans g8
  replace E := E.grow g8
  refine Zp J (Zb (kq (Zr (Yx J J ?_))))
  refine ⟨Ygg ?_, g⟩; unfold tyValidB; rw [h1]; rfl
 refine Yc (kq (Ze (Zg (Zx Ws J (Yg Zu J (E.g0.at_ J) (Xsb J J (Zt J (Zn J J J (fun _ => Zv Ws (Zk J)) (Yj J J J (Ye Zu (Zq J id) (fun _ => E.g0.at_ J)) (Zn J J J (fun _ => Ufb (Zq J id) Xy) (Yi J (fun _ => Zz (Zk J) (Zq J id)) (Zt J (Zn J J J (fun _ => Zv Jna (Zk J)) (Yj J J J (Ye Yr (Zq J id) (fun _ => E.g0.at_ J)) (Zn J J J (fun _ => Yya (Zq J id) Xy) (Yi J (fun _ => Zz (Zk J) (Zq J id)) (?_)))))))))))))))))
 refine Zp J (Zb (kq (Zr (Yx J J ?_))))
 refine ⟨Ygg ?_, g⟩; unfold tyValidB; rw [h1]; rfl
theorem Wkf (y : Ty) : ((tyValidB y && decide (4 ≤ y.kind)) && decide (y.kind ≤ 7)) = refB y := by
 unfold refB
 by_cases h : 4 ≤ y.kind ∧ y.kind ≤ 7
 ·rw [Yfg h.1, Yfg h.2]
  have : anyK [4, 5, 6, 7] y.kind = true := by
   simp only [anyK, Bool.or_eq_true, decide_eq_true_eq]; omega
  rw [this]; simp
 ·have : anyK [4, 5, 6, 7] y.kind = false := by
   simp only [anyK, Bool.or_eq_false_iff, decide_eq_false_iff_not]; omega
  rw [this, cond_false, Bool.and_eq_false_iff, Bool.and_eq_false_iff, decide_eq_false_iff_not, decide_eq_false_iff_not]
  omega
theorem Wdc (y : Ty) (w : World) : Ret PP Zec #[tyV y] w fun v w' => v = .bool (refB y) ∧ G w w' := by
 have g := G.refl w
 refine Yp (m := 15) Uzb J J [(0, True, _)] (Za J (Zj _)) ?_
 refine Ze (Zg (Wq J (Zk J) J ?_))
 intro b1 w1 N1
 have l1 := N1.ge g
 have g := g.trans N1.g
 have E := (Wo _).new N1
 refine Zp J (Zb (kq (Ze (Zg (Yk Zs J J E.g0.row (Xk J (Zo Jfb Yo (aqc J aq0) J) (Zfd _ _) (fun w4 g4 => ?_)))))))
 have g := g.trans g4
 replace E := E.grow g4
 refine Zt J (Zn J J J (fun _ => Zv Ws (Zk J)) (Yj J J J (Ye Zu (Zq J id) (fun _ => E.g0.at_ J)) (Zn J J J (fun _ => Ugb (Zq J id) Xy) (Yi J (fun _ => Zz (Zk J) (Zq J id)) (Zt J (Zn J J J (fun _ => Zv Ws (Zk J)) (Yj J J J (Ye Zu (Zq J id) (fun _ => E.g0.at_ J)) (Zn J J J (fun _ => Ufb (Zq J id) Xy) (Yi J (fun _ => Zz (Zk J) (Zq J id)) (Zp J (Zb (kq (Zr (Yx J J ?_))))))))))))))
 refine ⟨Ygg ?_, g⟩; exact Wkf y
theorem Uoa (y : Ty) (w : World) : Ret PP Xcd #[tyV y] w fun v w' => v = .bool (Qr y) ∧ G w w' := by
 have g := G.refl w
 refine Yp (m := 15) Vmc J J [(0, True, _)] (Za J (Zj _)) ?_
 refine Ze (Zg (Wq J (Zk J) J ?_))
 intro b1 w1 N1
 have l1 := N1.ge g
 have g := g.trans N1.g
 have E := (Wo _).new N1
 refine Zp J (Zb (kq (Ze (Zg (Yk Zs J J E.g0.row (Uc Yq Xv (pqc J pq0) J J (Yi J (fun _ => Xda Uz (Zk J) (Zk J) J) (Zt J (Yj J J J (Xd Zs (Zk J) J (fun _ => E.g0.row)) (Zn J J J (fun _ => Js [_, _] Yq J Xv (Wk Xy (Qk)) J) (Zn J J J (fun _ => Xda Uz (Zq J id) (Zq J id) J) (Yi J (fun _ => Xh (Zk J) (Zq J id)) (Zt J (Yj J J J (Xd Zs (Zk J) J (fun _ => E.g0.row)) (We J J J (fun _ => (Zo Xia Yo (Xf (Zq J id) (Xw)) J)) (fun hc => Wdc _ _) (fun w13 g13 => ?_))))))))))))))))
 have g := g.trans g13
 replace E := E.grow g13
 refine Yi J (fun _ => Xh (Zk J) (Zq J id)) (Zp J (Zb (kq (Zr (Yx J J ?_)))))
 exact ⟨rfl, g⟩
theorem Xya (a b : Ty) (w : World) : Ret PP Qzb #[tyV a, tyV b] w fun v w' => v = .bool (Ub a b) ∧ G w w' := by
 have g := G.refl w
 refine Yp (m := 21) Vrb J J [(0, True, _), (1, True, _)] (Za J (Za J (Zj _))) ?_
 refine Ze (Zg (Wq J (Zk J) J ?_))
 intro b2 w2 N2
 have l2 := N2.ge g
 have g := g.trans N2.g
 have E := (Wo _).new N2
 refine Wq J (Zk J) J ?_
 intro b3 w3 N3
 have l3 := N3.ge g
 have g := g.trans N3.g
 replace E := E.new N3
 refine Zp J (Zb (kq (Ze (Zg (Yk Zs J J E.g1.row (Xk J (Zo Xha Yo (aqc J aq0) J) (Uoa _ _) (fun w6 g6 => ?_)))))))
 have g := g.trans g6
 replace E := E.grow g6
 refine Zt J (Yj J J J (Xd Zs (Zk J) J (fun _ => E.g1.row)) (Yj J J J (Xd Zs (Zk J) J (fun _ => E.g0.row)) (Zn J J J (fun _ => Xda Uz (Zq J id) (Zq J id) J) (Zn J J J (fun _ => Yl (Zq J id)) (Yj J J J (Xd Zs (Zk J) J (fun _ => E.g0.row)) (Zn J J J (fun _ => Js [_, _] Yq J Xv (Wk Xy (Qk)) J) (Zn J J J (fun _ => Xda Uz (Zq J id) (Zq J id) J) (Zn J J J (fun _ => Yl (Zq J id)) (Yj J J J (Xd Zs (Zk J) J (fun _ => E.g1.row)) (We J J J (fun _ => (Zo Xia Yo (Xf (Zq J id) (Xw)) J)) (fun hc => Wdc _ _) (fun w17 g17 => ?_)))))))))))
 have g := g.trans g17
 replace E := E.grow g17
 refine Zn J J J (fun _ => Zz (Zq J id) (Zq J id)) (Zn J J J (fun _ => Xh (Zq J id) (Zq J id)) (Yi J (fun _ => Zz (Zk J) (Zq J id)) (Zp J (Zb (kq (Zr (Yx J J ?_)))))))
 refine ⟨Ygg ?_, g⟩
 unfold Ub; rw [Zme b a]; rfl
theorem Jpe (a b : Ty) : (((tyEqB a b && Qr a) && !decide (a.kind = 5)) && !decide (a.kind = 7)) = (bif anyK [1, 2, 4, 6] a.kind then tyEqB a b && tyValidB a else false) := by
 cases tyEqB a b
 ·simp
 ·simp only [Bool.true_and]
  unfold Qr refB anyK anyK anyK anyK
  by_cases h1 : a.kind = 1
  ·have : tyEqB a tInt = tyValidB a := by unfold tyEqB tyValidB; simp [h1, tInt]; exact decide_eq_decide.2 Iff.rfl
   have : tyEqB a tBool = false := by unfold tyEqB; simp [h1, tBool]
   simp_all
  ·by_cases h2 : a.kind = 2
   ·have : tyEqB a tBool = tyValidB a := by unfold tyEqB tyValidB; simp [h2, tBool]; exact decide_eq_decide.2 Iff.rfl
    have : tyEqB a tInt = false := by unfold tyEqB; simp [h2, tInt]
    simp_all
   ·have e1 : tyEqB a tInt = false := by unfold tyEqB; simp [h1, tInt]
    have e2 : tyEqB a tBool = false := by unfold tyEqB; simp [h2, tBool]
    rw [e1, e2]
    by_cases h4 : a.kind = 4
    ·simp [h4]
    ·by_cases h6 : a.kind = 6
     ·simp [h6]
     ·by_cases h5 : a.kind = 5
      ·simp [h5]
      ·by_cases h7 : a.kind = 7
       ·simp [h7]
       ·simp [h1, h2, h4, h5, h6, h7]
theorem Jqe (a b : Ty) (w : World) : Ret PP Jjb #[tyV a, tyV b] w fun v w' => v = .bool (compB a b) ∧ G w w' := by
 have g := G.refl w
 refine Yp (m := 38) Udb J J [(0, True, _), (1, True, _)] (Za J (Za J (Zj _))) ?_
 refine Ze (Zg (Wq J (Zk J) J ?_))
 intro b2 w2 N2
 have l2 := N2.ge g
 have g := g.trans N2.g
 have E := (Wo _).new N2
 refine Wq J (Zk J) J ?_
 intro b3 w3 N3
 have l3 := N3.ge g
 have g := g.trans N3.g
 replace E := E.new N3
 refine Zp J (Zb (kq (Ze (Zg (Uc Yq Xv (pqc J pq0) J J (Yh J Yq J ?_))))))
 intro b5 w5 N5
 have l5 := N5.ge g
 have g := g.trans N5.g
 replace E := E.new N5
 refine Yt Yn J J J E.g0 ?_
 intro wS1 hgS1 _ BS
 replace E := E.s0 hgS1 BS
 have g := Zw g hgS1 (by omega)
 refine Zb (kq (Ze (Ze (Zg (Yk Zs J J E.g2.row (Yk Zs J J E.g0.row (Yi J (fun _ => Xda Uz (Zk J) (Zk J) J) (Zt J (Yj J J J (Xd Zs (Zk J) J (fun _ => E.g1.row)) (Yj J J J (Xd Zs (Zk J) J (fun _ => E.g0.row)) (Zn J J J (fun _ => Xda Uz (Zq J id) (Zq J id) J) (Yi J (fun _ => Xh (Zk J) (Zq J id)) (Zb (kq (Yv J (fun h1 => ?_) (fun h1 => ?_))))))))))))))))
 ·have hq : (tyEqB a tNil || tyEqB b tNil) = true := h1
  refine Ze (Zg (Yk Zs J J E.g2.row (Xk J (Zo Xia Yo (aqc J aq0) J) (Wdc _ _) (fun w16 g16 => ?_))))
  have g := g.trans g16
  replace E := E.grow g16
  refine Zt J (Yj J J J (Xd Zs (Zk J) J (fun _ => E.g1.row)) (We J J J (fun _ => (Zo Xia Yo (Xf (Zq J id) (Xw)) J)) (fun hc => Wdc _ _) (fun w19 g19 => ?_)))
  have g := g.trans g19
  replace E := E.grow g19
  refine Yi J (fun _ => Xh (Zk J) (Zq J id)) (Zp J (Zb (kq (Zr (Yx J J ?_)))))
  refine ⟨Ygg ?_, g⟩; unfold compB; rw [hq]; rfl
 have hq : (tyEqB a tNil || tyEqB b tNil) = false := h1
 refine Yc (kq (Ze (Zg (Yk Zs J J E.g2.row (Yk Zs J J E.g1.row (Yi J (fun _ => Xda Uz (Zk J) (Zk J) J) (Zt J (Yj J J J (Xd Zs (Zk J) J (fun _ => E.g2.row)) (We J J J (fun _ => (Zo Xha Yo (Xf (Zq J id) (Xw)) J)) (fun hc => Uoa _ _) (fun w26 g26 => ?_))))))))))
 have g := g.trans g26
 replace E := E.grow g26
 refine Yi J (fun _ => Zz (Zk J) (Zq J id)) (Zt J (Zn J J J (fun _ => Zv Ws (Zk J)) (Yj J J J (Ye Zu (Zq J id) (fun _ => E.g2.at_ J)) (Zn J J J (fun _ => Wba (Zq J id) Xy) (Yi J (fun _ => Zz (Zk J) (Zq J id)) (Zt J (Zn J J J (fun _ => Zv Ws (Zk J)) (Yj J J J (Ye Zu (Zq J id) (fun _ => E.g2.at_ J)) (Zn J J J (fun _ => Wba (Zq J id) Xy) (Yi J (fun _ => Zz (Zk J) (Zq J id)) (Zp J (Zb (kq (Zr (Yx J J ?_)))))))))))))))
 refine ⟨Ygg ?_, g⟩; unfold compB; rw [hq, ← Jpe]; rfl
def tFunc : Ty := ⟨7, []⟩
def typTexts : List (List UInt8) := [[], [105, 110, 116], [98, 111, 111, 108], [110, 105, 108], [], [91, 93, 105, 110, 116], [99, 104, 97, 110, 32, 105, 110, 116], [102, 117, 110, 99, 40, 41], [109, 117, 116, 101, 120], [114, 119, 109, 117, 116, 101, 120], [103, 114, 111, 117, 112], [111, 110, 99, 101], [97, 116, 111, 109, 105, 99]]
def LaidT (w : World) : Prop := RowAt w 0 0 (typTexts.map Str)
theorem LaidT.grow {w w' : World} (h : LaidT w) (g : G w w') : LaidT w' := RowAt.grow h g
theorem Jqc {l : List Nd} {i : Nat} (f : Nd → Nat) (h : i < l.length) : ((l.take (i + 1)).map f).sum = ((l.take i).map f).sum + f l[i] := by
 rw [Joa f l i h, List.sum_append]; simp
theorem Vme : ∀ (t : Nd) (v : Value) (D : Nat → Prop) (w : World), Kd w D t.kids v → count t ≤ 4611686018427387904 → Ret PP Ypd #[ndV t v] w fun r w' => r = .int .i64 (count t : Nat) ∧ G w w' := by
 refine Nd.ind fun t ih v D w hk hc => ?_
 obtain ⟨p, c, rfl, hcap, hks⟩ := hk
 have g := G.refl w
 have hlen := Qt t
 refine Yp (m := 21) Wxc J J [(0, True, _)] (Za J (Zj _)) ?_
 refine Ze (Zg (Wq J (Zk J) J ?_))
 intro b1 w1 N1
 have l1 := N1.ge g
 have g := g.trans N1.g
 have E := (Wo _).new N1
 refine Zp J (Zb (kq (Ze (Zg (Zp J (Zb (kq (Ze (Ze (Zg (Zp J (Zb (kq (Yu (Qq (fun (i : Nat) u1 => (i ≤ t.kids.length) ∧ G w1 u1) [(1, True, _), (2, True, _)] (fun (i : Nat) => [(3, True, .int .i64 ((1 + ((t.kids.take i).map count).sum : Nat) : Int)), (4, True, .int .i64 i)]) (fun (i : Nat) => t.kids.length - i) (0) ⟨by simp, G.refl _⟩ (Za J (Za J (Za J (Za J (Zj _))))) ?_)))))))))))))))
 rintro i u1 ⟨hI1, gl1⟩
 have g := g.trans gl1
 replace E := E.grow gl1
 refine Ze (Ze (Zg (Zt J (Zx Zi J (Yg Zh J (E.g0.at_ J) (Qu Zf J (Zfa J J (Zb (kq (Yv J (fun h1 => ?_) (fun h1 => ?_)))))))))))
 ·replace h1 : i < t.kids.length := by simp only [decide_eq_true_eq] at h1; omega
  obtain ⟨b, o, rfl, hD, xs, hR, hX⟩ := hks (by omega)
  obtain ⟨p', c', hcell, hkid⟩ := Qta hR hX h1
  have hck := Xka h1
  refine Yc (kq (Ze (Yu (Zg (Zt J (Zx Zi J (Yg Zh J (E.g0.at_ J) (Zt J (Jta Zf J J (by omega) (Yk Zc J J (hcell.grow g) (Xk J (Zo Qpb Yo (aqc J aq0) J) (ih _ (List.getElem_mem h1) _ _ _ (hkid.grow g) (by omega)) (fun w18 g18 => ?_))))))))))))
  have gl1 := gl1.trans (g18)
  replace E := E.grow g18
  refine Qv J J (by omega) (Zp J (Zb (kq (Zg (Zt J (Qv J J (by omega) (Zp J (Wh [(3, _, _), (4, _, _), (1, _, _), (2, _, _)] (Za J (Za J (Za J (Za J (Zj _))))) (Zb (fun a ha => ?_))))))))))
  have e : ((1 + ((t.kids.take i).map count).sum : Nat) : Int) + (count t.kids[i] : Nat) = ((1 + ((t.kids.take (i + 1)).map count).sum : Nat) : Int) := by rw [Jqc count h1]; omega
  rw [e] at ha
  exact ⟨i + 1, ha, ⟨h1, gl1⟩, by omega⟩
 replace h1 : i = t.kids.length := by simp only [decide_eq_false_iff_not] at h1; omega
 refine Vq J (kq (Ze (Zg (Zt J (Zp J (Zb (kq (Zr (Yx J J ?_)))))))))
 refine ⟨?_, g⟩
 rw [h1, List.take_length, ← Jx]
theorem Zgd {α : Type} {l : List α} {i : Nat} (h : i < l.length) : l.take (i + 1) = l.take i ++ [l[i]] := by
 rw [List.take_add_one, List.getElem?_eq_getElem h]; rfl
def RetNd (t : Nd) (base : Nat) (r : Value) (w : World) : Prop := ∃ p c, r = ndV t (.slice p t.kids.length c) ∧ Kd w (fun b => base ≤ b) t.kids (.slice p t.kids.length c)
def Qg : List (List UInt8) := [[105, 110, 116], [98, 111, 111, 108], [91, 93, 105, 110, 116], [99, 104, 97, 110], [102, 117, 110, 99], [109, 117, 116, 101, 120], [114, 119, 109, 117, 116, 101, 120], [103, 114, 111, 117, 112], [111, 110, 99, 101], [97, 116, 111, 109, 105, 99]]
def typeNameB (s : List UInt8) : Bool := anyS Qg s
theorem Ugd (s : List UInt8) (w : World) : Ret PP Yyc #[Str s] w fun v w' => v = .bool (typeNameB s) ∧ G w w' := by
  have g := G.refl w
  refine Yp (m := 15) Qxb J J [(0, True, _)] (Za J (Zj _)) ?_
  refine Ze (Zg (Zp J (Zb (kq (Ze (Ze (Zg (Zt J (Zb (kq (Yu (Ze (Ze (Zg (Wi J J (Zp J (Zb (kq (?_)))))))))))))))))))
  refine' Xi [(2, _, _)] (Za J (Za J (Zj _))) J (fun hb1 => ?y1) (kq ?n1)
  case y1 =>
   refine Ze (Zg (Wi J J (Zp J (Zb (kq (?_))))))
   refine' Xi [(2, _, _)] (Za J (Za J (Zj _))) J (fun hb2 => ?y2) knr
   case y2 =>
    refine Ze (Zg (Wi J J (Zp J (Zb (kq (?_))))))
    refine' Xi [(2, _, _)] (Za J (Za J (Zj _))) J (fun hb3 => ?y3) knr
    case y3 =>
     refine Ze (Zg (Wi J J (Zp J (Zb (kq (?_))))))
     refine' Xi [(2, _, _)] (Za J (Za J (Zj _))) J (fun hb4 => ?y4) knr
     case y4 =>
      refine Ze (Zg (Wi J J (Zp J (Zb (kq (?_))))))
      refine' Xi [(2, _, _)] (Za J (Za J (Zj _))) J (fun hb5 => ?y5) knr
      case y5 =>
       refine Ze (Zg (Wi J J (Zp J (Zb (kq (?_))))))
       refine' Xi [(2, _, _)] (Za J (Za J (Zj _))) J (fun hb6 => ?y6) knr
       case y6 =>
        refine Ze (Zg (Wi J J (Zp J (Zb (kq (?_))))))
        refine' Xi [(2, _, _)] (Za J (Za J (Zj _))) J (fun hb7 => ?y7) knr
        case y7 =>
         refine Ze (Zg (Wi J J (Zp J (Zb (kq (?_))))))
         refine' Xi [(2, _, _)] (Za J (Za J (Zj _))) J (fun hb8 => ?y8) knr
         case y8 =>
          refine Ze (Zg (Wi J J (Zp J (Zb (kq (?_))))))
          refine' Xi [(2, _, _)] (Za J (Za J (Zj _))) J (fun hb9 => ?y9) knr
          case y9 =>
           refine Zg (Wi J J (Zp J (Wh [(4, _, _), (2, _, _)] (Za J (Za J (Zj _))) (?_))))
           exact Zb knr
  case n1 =>
   refine Yv J (fun h10 => ?_) (fun h10 => ?_)
   · (try simp only [Xq] at h10)
     refine Ze (Zg (Zp J (Zb (kq (Zr (Yx J J ?_))))))
     refine ⟨Ygg ?_, g⟩
     simp only [typeNameB, anyS, Qg]; exact (h10).symm
   refine Yc (kq (Ze (Zg (Zp J (Zb (kq (Zr (Yx J J ?_))))))))
   refine ⟨Ygg ?_, g⟩
   simp only [typeNameB, anyS, Qg]; exact (h10).symm
def leafB (t : Nd) : Bool := decide ((t.kids.length : Int) = 0)
def isTypeB (t : Nd) : Bool := bif decide (t.kind = 8) then nameB t.text && leafB t else bif decide (t.kind = 7) then typeNameB t.text && leafB t else false
theorem Vib (t : Nd) (p : Option Addr) (c : Nat) (w : World) : Ret PP Qqc #[ndV t (.slice p t.kids.length c)] w fun v w' => v = .bool (isTypeB t) ∧ G w w' := by
  have g := G.refl w
  refine Yp (m := 27) Ysc J J [(0, True, _)] (Za J (Zj _)) ?_
  refine Ze (Zg (Wq J (Zk J) J ?_))
  intro b1 w1 N1
  have l1 := N1.ge g
  have g := g.trans N1.g
  have E := (Wo _).new N1
  refine Zp J (Zb (kq (Ze (Ze (Zg (Zx Yd J (Yg Zu J (E.g0.at_ J) (Zb (kq (Yu (Ze (Zg (Xt J J (Zp J (Zb (kq (Yv J (fun h1 => ?_) (fun h1 => ?_))))))))))))))))))
  · (try simp only [Xq] at h1)
    refine Ze (Zg (Zx Ym J (Yg Yr J (E.g0.at_ J) (Xk J (Zo Zna Yo (aqc J aq0) J) (Wqa _ _) (fun w9 g9 => ?_)))))
    have g := g.trans g9
    replace E := E.grow g9
    refine Zt J (Zn J J J (fun _ => Zv Zi (Zk J)) (Yj J J J (Ye Zh (Zq J id) (fun _ => E.g0.at_ J)) (Zn J J J (fun _ => Zea Zf (Zq J id)) (Zn J J J (fun _ => Vt (Zq J id) Xy) (Yi J (fun _ => Zz (Zk J) (Zq J id)) (Zp J (Zb (kq (Zr (Yx J J ?_))))))))))
    refine ⟨Ygg ?_, g⟩
    unfold isTypeB; simp only [h1, cond_true, cond_false] <;> rfl
  refine Ze (Zg (Xt J J (Zp J (Zb (kq (Yv J (fun h2 => ?_) (fun h2 => ?_)))))))
  · (try simp only [Xq] at h2)
    refine Ze (Zg (Zx Ym J (Yg Yr J (E.g0.at_ J) (Xk J (Zo Yzc Yo (aqc J aq0) J) (Ugd _ _) (fun w20 g20 => ?_)))))
    have g := g.trans g20
    replace E := E.grow g20
    refine Zt J (Zn J J J (fun _ => Zv Zi (Zk J)) (Yj J J J (Ye Zh (Zq J id) (fun _ => E.g0.at_ J)) (Zn J J J (fun _ => Zea Zf (Zq J id)) (Zn J J J (fun _ => Vt (Zq J id) Xy) (Yi J (fun _ => Zz (Zk J) (Zq J id)) (Zp J (Zb (kq (Zr (Yx J J ?_))))))))))
    refine ⟨Ygg ?_, g⟩
    unfold isTypeB; simp only [h1, h2, cond_true, cond_false] <;> rfl
  refine Yc (kq (Ze (Zg (Zp J (Zb (kq (Zr (Yx J J ?_))))))))
  refine ⟨Ygg ?_, g⟩
  unfold isTypeB; simp only [h1, h2, cond_true, cond_false] <;> rfl
def binOps : List (List UInt8) := [[124, 124], [38, 38], [61, 61], [33, 61], [60], [60, 61], [62], [62, 61], [43], [45], [42], [47], [37]]
theorem Jre (s : List UInt8) (w : World) : Ret PP Xjc #[Str s] w fun v w' => v = .bool (anyS binOps s) ∧ G w w' := by
  have g := G.refl w
  refine Yp (m := 18) Jdb J J [(0, True, _)] (Za J (Zj _)) ?_
  refine Ze (Zg (Zp J (Zb (kq (Ze (Ze (Zg (Zt J (Zb (kq (Yu (Ze (Ze (Zg (Wi J J (Zp J (Zb (kq (?_)))))))))))))))))))
  refine' Xi [(2, _, _)] (Za J (Za J (Zj _))) J (fun hb1 => ?y1) (kq ?n1)
  case y1 =>
   refine Ze (Zg (Wi J J (Zp J (Zb (kq (?_))))))
   refine' Xi [(2, _, _)] (Za J (Za J (Zj _))) J (fun hb2 => ?y2) knr
   case y2 =>
    refine Ze (Zg (Wi J J (Zp J (Zb (kq (?_))))))
    refine' Xi [(2, _, _)] (Za J (Za J (Zj _))) J (fun hb3 => ?y3) knr
    case y3 =>
     refine Ze (Zg (Wi J J (Zp J (Zb (kq (?_))))))
     refine' Xi [(2, _, _)] (Za J (Za J (Zj _))) J (fun hb4 => ?y4) knr
     case y4 =>
      refine Ze (Zg (Wi J J (Zp J (Zb (kq (?_))))))
      refine' Xi [(2, _, _)] (Za J (Za J (Zj _))) J (fun hb5 => ?y5) knr
      case y5 =>
       refine Ze (Zg (Wi J J (Zp J (Zb (kq (?_))))))
       refine' Xi [(2, _, _)] (Za J (Za J (Zj _))) J (fun hb6 => ?y6) knr
       case y6 =>
        refine Ze (Zg (Wi J J (Zp J (Zb (kq (?_))))))
        refine' Xi [(2, _, _)] (Za J (Za J (Zj _))) J (fun hb7 => ?y7) knr
        case y7 =>
         refine Ze (Zg (Wi J J (Zp J (Zb (kq (?_))))))
         refine' Xi [(2, _, _)] (Za J (Za J (Zj _))) J (fun hb8 => ?y8) knr
         case y8 =>
          refine Ze (Zg (Wi J J (Zp J (Zb (kq (?_))))))
          refine' Xi [(2, _, _)] (Za J (Za J (Zj _))) J (fun hb9 => ?y9) knr
          case y9 =>
           refine Ze (Zg (Wi J J (Zp J (Zb (kq (?_))))))
           refine' Xi [(2, _, _)] (Za J (Za J (Zj _))) J (fun hb10 => ?y10) knr
           case y10 =>
            refine Ze (Zg (Wi J J (Zp J (Zb (kq (?_))))))
            refine' Xi [(2, _, _)] (Za J (Za J (Zj _))) J (fun hb11 => ?y11) knr
            case y11 =>
             refine Ze (Zg (Wi J J (Zp J (Zb (kq (?_))))))
             refine' Xi [(2, _, _)] (Za J (Za J (Zj _))) J (fun hb12 => ?y12) knr
             case y12 =>
              refine Zg (Wi J J (Zp J (Wh [(4, _, _), (2, _, _)] (Za J (Za J (Zj _))) (?_))))
              exact Zb knr
  case n1 =>
   refine Yv J (fun h13 => ?_) (fun h13 => ?_)
   · (try simp only [Xq] at h13)
     refine Ze (Zg (Zp J (Zb (kq (Zr (Yx J J ?_))))))
     refine ⟨Ygg ?_, g⟩
     simp only [anyS, binOps]; exact (h13).symm
   refine Yc (kq (Ze (Zg (Zp J (Zb (kq (Zr (Yx J J ?_))))))))
   refine ⟨Ygg ?_, g⟩
   simp only [anyS, binOps]; exact (h13).symm
def typTab : List (List UInt8 × Int) := [([105, 110, 116], 1), ([98, 111, 111, 108], 2), ([91, 93, 105, 110, 116], 5), ([99, 104, 97, 110], 6), ([102, 117, 110, 99], 7), ([109, 117, 116, 101, 120], 8), ([114, 119, 109, 117, 116, 101, 120], 9), ([103, 114, 111, 117, 112], 10), ([111, 110, 99, 101], 11), ([97, 116, 111, 109, 105, 99], 12)]
def typKind (s : List UInt8) : Int := (typTab.lookup s).getD 0
def ofF (t : Nd) : Ty × Bool :=
 bif !leafB t then (ty0, false)
 else bif decide (t.kind = 9) then (ty0, decide (t.text = []))
 else bif decide (t.kind = 8) then (bif nameB t.text then (⟨4, t.text⟩, true) else (ty0, false))
 else bif decide (t.kind = 7) then (bif typeNameB t.text then (⟨typKind t.text, []⟩, true) else (ty0, false))
 else (ty0, false)
structure Fld where
 name : List UInt8
 ty : Ty
def fldCells (f : Fld) : List Value := [Str f.name, .int .i64 f.ty.kind, Str f.ty.name]
theorem Xyc (f : Fld) : (fldCells f).length = 3 := rfl
section
variable {α β : Type} (f : α → Option β)
def mapO : List α → Option (List β)
 | [] => some []
 | a :: l => match f a, mapO l with
  | some b, some r => some (b :: r)
  | _, _ => none
theorem Zhd : ∀ (l : List α) (a : α), mapO f (l ++ [a]) = match mapO f l, f a with
  | some r, some b => some (r ++ [b])
  | _, _ => none
 | [], a => by simp only [mapO, List.nil_append]; cases f a <;> rfl
 | x :: l, a => by
  rw [List.cons_append, mapO, Zhd l a, mapO]
  cases f x <;> cases mapO f l <;> cases f a <;> rfl
theorem Ukc : ∀ (l : List α) (a : α), a ∈ l → f a = none → mapO f l = none
 | x :: l, a, h, hn => by
  rw [mapO]
  rcases List.mem_cons.1 h with rfl | h
  ·rw [hn]
  ·rw [Ukc l a h hn]; cases f x <;> rfl
theorem Ulc : ∀ (l : List α) (r : List β), mapO f l = some r → r.length = l.length
 | [], r, h => by injection h with h; subst h; rfl
 | x :: l, r, h => by
  rw [mapO] at h
  cases h1 : f x with
  | none => rw [h1] at h; cases h
  | some b =>
   cases h2 : mapO f l with
   | none => rw [h1, h2] at h; cases h
   | some r' => rw [h1, h2] at h; injection h with h; subst h; rw [List.length_cons, Ulc l r' h2]; rfl
end
def kid0 (t : Nd) : Nd := t.kids.getD 0 nd0
def Xpa (f : Nd) : Option Fld := bif !decide (f.kind = 3) || !decide ((f.kids.length : Int) = 1) then none else bif (ofF (kid0 f)).2 then some ⟨f.text, (ofF (kid0 f)).1⟩ else none
def isStr (name : List UInt8) (d : Nd) : Bool := !(!decide (d.kind = 2) || !decide (d.text = name))
def Qn (t : Nd) (name : List UInt8) : List Fld × Bool := match t.kids.find? (isStr name) with
 | none => ([], false)
 | some d => match mapO Xpa d.kids with
  | none => ([], false)
  | some l => (l, true)
theorem Wlf {name : List UInt8} {l : List Nd} {i : Nat} (hi : i < l.length) (h1 : ∀ j, (hj : j < l.length) → j < i → isStr name l[j] = false) (h2 : isStr name l[i] = true) : l.find? (isStr name) = some l[i] := by
 rw [List.find?_eq_some_iff_getElem]
 exact ⟨h2, i, hi, rfl, fun j hj => by rw [h1 j (by omega) hj]; rfl⟩
theorem Wmf {name : List UInt8} {l : List Nd} (h1 : ∀ j, (hj : j < l.length) → isStr name l[j] = false) : l.find? (isStr name) = none := by
 rw [List.find?_eq_none]
 intro x hx
 obtain ⟨j, hj, rfl⟩ := List.getElem_of_mem hx
 rw [h1 j hj]; simp
def FldV (r : List Fld × Bool) (v : Value) (w : World) : Prop := ∃ l, v = .tuple #[l, .bool r.2] ∧ RowF fldCells w r.1 l
theorem Wnf {w : World} {base : Nat} {s : Value} {l : List Fld} (h : w.ownsRow base Uha 3 s l.length (l.flatMap fldCells)) : RowF fldCells w l s := Jle h rfl
theorem Wof {t : Nd} (h : t.kids.length = 1) : ∃ h0 : 0 < t.kids.length, kid0 t = t.kids[0] := ⟨by omega, by simp [kid0, List.getD_eq_getElem?_getD, List.getElem?_eq_getElem (show 0 < t.kids.length by omega)]⟩
theorem Jse {l : List Nd} {k : Nat} (hk : k < l.length) {r : List Fld} {b : Fld} (h : mapO Xpa (l.take k) = some r) (hb : Xpa l[k] = some b) : mapO Xpa (l.take (k + 1)) = some (r ++ [b]) := by
 rw [Zgd hk, Zhd, h, hb]
theorem Jte {w : World} {base : Nat} {l : List Fld} (f : Fld) {a : Option Addr} {c : Nat} (h : w.ownsRow base Uha 3 (.slice a (l.length + 1) c) (l.length + 1) (l.flatMap fldCells ++ fldCells f)) : w.ownsRow base Uha 3 (.slice a (l ++ [f]).length c) (l ++ [f]).length ((l ++ [f]).flatMap fldCells) := by
 rw [List.flatMap_append, List.length_append, List.flatMap_cons, List.flatMap_nil, List.append_nil]; exact h
def opAr : List (List UInt8) := [[43], [45], [42], [47], [37]]
def opLt : List (List UInt8) := [[60], [60, 61], [62], [62, 61]]
def opEq : List (List UInt8) := [[61, 61], [33, 61]]
def opLo : List (List UInt8) := [[38, 38], [124, 124]]
def binT (op : List UInt8) (a b : Ty) : Ty × Bool :=
  bif anyS opAr op then bif tyEqB a tInt && tyEqB b tInt then (tInt, true) else (ty0, false)
  else bif anyS opLt op then bif tyEqB a tInt && tyEqB b tInt then (tBool, true) else (ty0, false)
  else bif anyS opEq op then bif compB a b then (tBool, true) else (ty0, false)
  else bif anyS opLo op then bif tyEqB a tBool && tyEqB b tBool then (tBool, true) else (ty0, false)
  else (ty0, false)
theorem Wpf (op : List UInt8) (a b : Ty) (w : World) : Ret PP Jjc #[Str op, tyV a, tyV b] w fun v w' => v = .tuple #[tyV (binT op a b).1, .bool (binT op a b).2] ∧ G w w' := by
  have g := G.refl w
  refine Yp (m := 62) Xsc J J [(0, True, _), (1, True, _), (2, True, _)] (Za J (Za J (Za J (Zj _)))) ?_
  refine Ze (Zg (Wq J (Zk J) J ?_))
  intro b4 w4 N4
  have l4 := N4.ge g
  have g := g.trans N4.g
  have E := (Wo _).new N4
  refine Wq J (Zk J) J ?_
  intro b5 w5 N5
  have l5 := N5.ge g
  have g := g.trans N5.g
  replace E := E.new N5
  refine Yh J Yq J ?_
  intro b6 w6 N6
  have l6 := N6.ge g
  have g := g.trans N6.g
  replace E := E.new N6
  refine Zp J (Zb (kq (Ze (Zg (Uc Yq Xv (pqc J pq0) J J (Uc Yq Xv (pqc J pq0) J J (Yh J Yq J ?_)))))))
  intro b8 w8 N8
  have l8 := N8.ge g
  have g := g.trans N8.g
  replace E := E.new N8
  refine Yh J Yq J ?_
  intro b9 w9 N9
  have l9 := N9.ge g
  have g := g.trans N9.g
  replace E := E.new N9
  refine Yt Yn J J J E.g1 ?_
  intro wS1 hgS1 _ BS
  replace E := E.s1 hgS1 BS
  have g := Zw g hgS1 (by omega)
  refine Yt Yn J J J E.g0 ?_
  intro wS2 hgS2 _ BS
  replace E := E.s0 hgS2 BS
  have g := Zw g hgS2 (by omega)
  refine Zb (kq (Ze (Ze (Zg (Zt J (Zb (kq (Yu (Ze (Ze (Zg (Wi J J (Zp J (Zb (kq (?_))))))))))))))))
  refine' Xi [(4, _, _), (5, _, _), (6, _, _), (7, _, _), (8, _, _), (9, _, _), (12, _, _)] (Za J (Za J (Za J (Za J (Za J (Za J (Za J (Za J (Zj _))))))))) J (fun hb1 => ?y1) (kq ?n1)
  case y1 =>
   refine Ze (Zg (Wi J J (Zp J (Zb (kq (?_))))))
   refine' Xi [(4, _, _), (5, _, _), (6, _, _), (7, _, _), (8, _, _), (9, _, _), (12, _, _)] (Za J (Za J (Za J (Za J (Za J (Za J (Za J (Za J (Zj _))))))))) J (fun hb2 => ?y2) knr
   case y2 =>
    refine Ze (Zg (Wi J J (Zp J (Zb (kq (?_))))))
    refine' Xi [(4, _, _), (5, _, _), (6, _, _), (7, _, _), (8, _, _), (9, _, _), (12, _, _)] (Za J (Za J (Za J (Za J (Za J (Za J (Za J (Za J (Zj _))))))))) J (fun hb3 => ?y3) knr
    case y3 =>
     refine Ze (Zg (Wi J J (Zp J (Zb (kq (?_))))))
     refine' Xi [(4, _, _), (5, _, _), (6, _, _), (7, _, _), (8, _, _), (9, _, _), (12, _, _)] (Za J (Za J (Za J (Za J (Za J (Za J (Za J (Za J (Zj _))))))))) J (fun hb4 => ?y4) knr
     case y4 =>
      refine Zg (Wi J J (Zp J (Wh [(13, _, _), (4, _, _), (5, _, _), (6, _, _), (7, _, _), (8, _, _), (9, _, _), (12, _, _)] (Za J (Za J (Za J (Za J (Za J (Za J (Za J (Za J (Zj _))))))))) (?_))))
      exact Zb knr
  case n1 =>
   refine Yv J (fun h5 => ?_) (fun h5 => ?_)
   · (try simp only [Xq] at h5)
     refine Ze (Zg (Yk Zs J J E.g4.row (Yk Zs J J E.g1.row (Yi J (fun _ => Xda Uz (Zk J) (Zk J) J) (Zt J (Yj J J J (Xd Zs (Zk J) J (fun _ => E.g3.row)) (Yj J J J (Xd Zs (Zk J) J (fun _ => E.g1.row)) (Zn J J J (fun _ => Xda Uz (Zq J id) (Zq J id) J) (Yi J (fun _ => Zz (Zk J) (Zq J id)) (Zb (kq (Yv J (fun h6 => ?_) (fun h6 => ?_)))))))))))))
     · replace h6 : (tyEqB a tInt && tyEqB b tInt) = true := h6
       refine Ze (Zg (Yk Zs J J E.g1.row (Yt Yn J J J E.g2 ?_)))
       intro wS3 hgS3 _ BS
       replace E := E.s2 hgS3 BS
       have g := Zw g hgS3 (by omega)
       refine Zp J (Zb (kq (Zr (Wb (rs := [.cell 6 24, .tmp 7]) (vs := [_, _]) J J (Yy J Zs J (E.g2.row) (Wg J (Yf))) J ?_))))
       refine ⟨?_, g⟩
       unfold binT; simp only [anyS, opAr, opLt, opEq, opLo, h5, h6, cond_true, cond_false]; rfl
     replace h6 : (tyEqB a tInt && tyEqB b tInt) = false := h6
     refine Yc (kq (Ze (Zg (Uc Yq Xv pq0 J J (Yt Yn J J J E.g2 ?_)))))
     intro wS4 hgS4 _ BS
     replace E := E.s2 hgS4 BS
     have g := Zw g hgS4 (by omega)
     refine Zp J (Zb (kq (Zr (Wb (rs := [.cell 6 24, .tmp 7]) (vs := [_, _]) J J (Yy J Zs J (E.g2.row) (Wg J (Yf))) J ?_))))
     refine ⟨?_, g⟩
     unfold binT; simp only [anyS, opAr, opLt, opEq, opLo, h5, h6, cond_true, cond_false]; rfl
   refine Ze (Ze (Zg (Wi J J (Zp J (Zb (kq (?_)))))))
   refine' Xi [(4, _, _), (5, _, _), (6, _, _), (7, _, _), (8, _, _), (9, _, _), (12, _, _)] (Za J (Za J (Za J (Za J (Za J (Za J (Za J (Za J (Zj _))))))))) J (fun hb7 => ?y7) (kq ?n7)
   case y7 =>
    refine Ze (Zg (Wi J J (Zp J (Zb (kq (?_))))))
    refine' Xi [(4, _, _), (5, _, _), (6, _, _), (7, _, _), (8, _, _), (9, _, _), (12, _, _)] (Za J (Za J (Za J (Za J (Za J (Za J (Za J (Za J (Zj _))))))))) J (fun hb8 => ?y8) knr
    case y8 =>
     refine Ze (Zg (Wi J J (Zp J (Zb (kq (?_))))))
     refine' Xi [(4, _, _), (5, _, _), (6, _, _), (7, _, _), (8, _, _), (9, _, _), (12, _, _)] (Za J (Za J (Za J (Za J (Za J (Za J (Za J (Za J (Zj _))))))))) J (fun hb9 => ?y9) knr
     case y9 =>
      refine Zg (Wi J J (Zp J (Wh [(28, _, _), (4, _, _), (5, _, _), (6, _, _), (7, _, _), (8, _, _), (9, _, _), (12, _, _)] (Za J (Za J (Za J (Za J (Za J (Za J (Za J (Za J (Zj _))))))))) (?_))))
      exact Zb knr
   case n7 =>
    refine Yv J (fun h10 => ?_) (fun h10 => ?_)
    · (try simp only [Xq] at h10)
      refine Ze (Zg (Yk Zs J J E.g4.row (Yk Zs J J E.g1.row (Yi J (fun _ => Xda Uz (Zk J) (Zk J) J) (Zt J (Yj J J J (Xd Zs (Zk J) J (fun _ => E.g3.row)) (Yj J J J (Xd Zs (Zk J) J (fun _ => E.g1.row)) (Zn J J J (fun _ => Xda Uz (Zq J id) (Zq J id) J) (Yi J (fun _ => Zz (Zk J) (Zq J id)) (Zb (kq (Yv J (fun h11 => ?_) (fun h11 => ?_)))))))))))))
      · replace h11 : (tyEqB a tInt && tyEqB b tInt) = true := h11
        refine Ze (Zg (Yk Zs J J E.g0.row (Yt Yn J J J E.g2 ?_)))
        intro wS5 hgS5 _ BS
        replace E := E.s2 hgS5 BS
        have g := Zw g hgS5 (by omega)
        refine Zp J (Zb (kq (Zr (Wb (rs := [.cell 6 24, .tmp 7]) (vs := [_, _]) J J (Yy J Zs J (E.g2.row) (Wg J (Yf))) J ?_))))
        refine ⟨?_, g⟩
        unfold binT; simp only [anyS, opAr, opLt, opEq, opLo, h5, h10, h11, cond_true, cond_false]; rfl
      replace h11 : (tyEqB a tInt && tyEqB b tInt) = false := h11
      refine Yc (kq (Ze (Zg (Uc Yq Xv pq0 J J (Yt Yn J J J E.g2 ?_)))))
      intro wS6 hgS6 _ BS
      replace E := E.s2 hgS6 BS
      have g := Zw g hgS6 (by omega)
      refine Zp J (Zb (kq (Zr (Wb (rs := [.cell 6 24, .tmp 7]) (vs := [_, _]) J J (Yy J Zs J (E.g2.row) (Wg J (Yf))) J ?_))))
      refine ⟨?_, g⟩
      unfold binT; simp only [anyS, opAr, opLt, opEq, opLo, h5, h10, h11, cond_true, cond_false]; rfl
    refine Ze (Ze (Zg (Wi J J (Zp J (Zb (kq (?_)))))))
    refine' Xi [(4, _, _), (5, _, _), (6, _, _), (7, _, _), (9, _, _), (12, _, _)] (Za J (Za J (Za J (Za J (Za J (Za J (Za J (Zj _)))))))) J (fun hb12 => ?y12) (kq ?n12)
    case y12 =>
     refine Zg (Wi J J (Zp J (Wh [(42, _, _), (4, _, _), (5, _, _), (6, _, _), (7, _, _), (9, _, _), (12, _, _)] (Za J (Za J (Za J (Za J (Za J (Za J (Za J (Zj _)))))))) (?_))))
     exact Zb knr
    case n12 =>
     refine Yv J (fun h13 => ?_) (fun h13 => ?_)
     · (try simp only [Xq] at h13)
       refine Ze (Zg (Yk Zs J J E.g4.row (Yk Zs J J E.g3.row (Xk J (Zo Jkb Yo (aqc J (aqc J aq0)) J) (Jqe _ _ _) (fun w47 g47 => ?_)))))
       have g := g.trans g47
       replace E := E.grow g47
       refine Zb (kq (Yv J (fun h14 => ?_) (fun h14 => ?_)))
       · (try simp only [Xq] at h14)
         refine Ze (Zg (Yk Zs J J E.g0.row (Yt Yn J J J E.g2 ?_)))
         intro wS7 hgS7 _ BS
         replace E := E.s2 hgS7 BS
         have g := Zw g hgS7 (by omega)
         refine Zp J (Zb (kq (Zr (Wb (rs := [.cell 6 24, .tmp 7]) (vs := [_, _]) J J (Yy J Zs J (E.g2.row) (Wg J (Yf))) J ?_))))
         refine ⟨?_, g⟩
         unfold binT; simp only [anyS, opAr, opLt, opEq, opLo, h5, h10, h13, h14, cond_true, cond_false]; rfl
       refine Yc (kq (Ze (Zg (Uc Yq Xv pq0 J J (Yt Yn J J J E.g2 ?_)))))
       intro wS8 hgS8 _ BS
       replace E := E.s2 hgS8 BS
       have g := Zw g hgS8 (by omega)
       refine Zp J (Zb (kq (Zr (Wb (rs := [.cell 6 24, .tmp 7]) (vs := [_, _]) J J (Yy J Zs J (E.g2.row) (Wg J (Yf))) J ?_))))
       refine ⟨?_, g⟩
       unfold binT; simp only [anyS, opAr, opLt, opEq, opLo, h5, h10, h13, h14, cond_true, cond_false]; rfl
     refine Ze (Ze (Zg (Wi J J (Zp J (Zb (kq (?_)))))))
     refine' Xi [(4, _, _), (5, _, _), (6, _, _), (7, _, _), (9, _, _)] (Za J (Za J (Za J (Za J (Za J (Za J (Zj _))))))) J (fun hb15 => ?y15) (kq ?n15)
     case y15 =>
      refine Zg (Wi J J (Zp J (Wh [(49, _, _), (4, _, _), (5, _, _), (6, _, _), (7, _, _), (9, _, _)] (Za J (Za J (Za J (Za J (Za J (Za J (Zj _))))))) (?_))))
      exact Zb knr
     case n15 =>
      refine Yv J (fun h16 => ?_) (fun h16 => ?_)
      · (try simp only [Xq] at h16)
        refine Ze (Zg (Yk Zs J J E.g4.row (Yk Zs J J E.g0.row (Yi J (fun _ => Xda Uz (Zk J) (Zk J) J) (Zt J (Yj J J J (Xd Zs (Zk J) J (fun _ => E.g3.row)) (Yj J J J (Xd Zs (Zk J) J (fun _ => E.g0.row)) (Zn J J J (fun _ => Xda Uz (Zq J id) (Zq J id) J) (Yi J (fun _ => Zz (Zk J) (Zq J id)) (Zb (kq (Yv J (fun h17 => ?_) (fun h17 => ?_)))))))))))))
        · replace h17 : (tyEqB a tBool && tyEqB b tBool) = true := h17
          refine Ze (Zg (Yk Zs J J E.g0.row (Yt Yn J J J E.g2 ?_)))
          intro wS9 hgS9 _ BS
          replace E := E.s2 hgS9 BS
          have g := Zw g hgS9 (by omega)
          refine Zp J (Zb (kq (Zr (Wb (rs := [.cell 6 24, .tmp 7]) (vs := [_, _]) J J (Yy J Zs J (E.g2.row) (Wg J (Yf))) J ?_))))
          refine ⟨?_, g⟩
          unfold binT; simp only [anyS, opAr, opLt, opEq, opLo, h5, h10, h13, h16, h17, cond_true, cond_false]; rfl
        replace h17 : (tyEqB a tBool && tyEqB b tBool) = false := h17
        refine Yc (kq (Ze (Zg (Uc Yq Xv pq0 J J (Yt Yn J J J E.g2 ?_)))))
        intro wS10 hgS10 _ BS
        replace E := E.s2 hgS10 BS
        have g := Zw g hgS10 (by omega)
        refine Zp J (Zb (kq (Zr (Wb (rs := [.cell 6 24, .tmp 7]) (vs := [_, _]) J J (Yy J Zs J (E.g2.row) (Wg J (Yf))) J ?_))))
        refine ⟨?_, g⟩
        unfold binT; simp only [anyS, opAr, opLt, opEq, opLo, h5, h10, h13, h16, h17, cond_true, cond_false]; rfl
      refine Yc (kq (Ze (Zg (Uc Yq Xv pq0 J J (Yt Yn J J J E.g2 ?_)))))
      intro wS11 hgS11 _ BS
      replace E := E.s2 hgS11 BS
      have g := Zw g hgS11 (by omega)
      refine Zp J (Zb (kq (Zr (Wb (rs := [.cell 6 24, .tmp 7]) (vs := [_, _]) J J (Yy J Zs J (E.g2.row) (Wg J (Yf))) J ?_))))
      refine ⟨?_, g⟩
      unfold binT; simp only [anyS, opAr, opLt, opEq, opLo, h5, h10, h13, h16, cond_true, cond_false]; rfl
theorem Wmb (y : Ty) : (tyCells y).length = 2 := rfl
def Qua (s : List UInt8) : Bool := decide (s = [76, 111, 99, 107]) || decide (s = [85, 110, 108, 111, 99, 107])
def mthF (y : Ty) (s : List UInt8) : List Ty × Ty × Bool :=
 bif !tyValidB y then ([], ty0, false)
 else bif decide (y.kind = 8) then ([], ty0, Qua s)
 else bif decide (y.kind = 9) then ([], ty0, (Qua s || decide (s = [82, 76, 111, 99, 107])) || decide (s = [82, 85, 110, 108, 111, 99, 107]))
 else bif decide (y.kind = 10) then (bif decide (s = [65, 100, 100]) then ([tInt], ty0, true) else ([], ty0, decide (s = [68, 111, 110, 101]) || decide (s = [87, 97, 105, 116])))
 else bif decide (y.kind = 11) then (bif decide (s = [68, 111]) then ([tFunc], ty0, true) else ([], ty0, false))
 else bif decide (y.kind = 12) then (bif decide (s = [76, 111, 97, 100]) then ([], tInt, true) else bif decide (s = [83, 116, 111, 114, 101]) then ([tInt], ty0, true) else bif decide (s = [65, 100, 100]) then ([tInt], tInt, true) else bif decide (s = [67, 111, 109, 112, 97, 114, 101, 65, 110, 100, 83, 119, 97, 112]) then ([tInt, tInt], tBool, true) else ([], ty0, false))
 else ([], ty0, false)
def FnV (P : Program) (q : Int → Bool) (v : Value) (w : World) : Prop := ∃ f fs cs, v = .func (.func f) fs cs ∧ goFn P f = true ∧ ∀ (k : Int) (w' : World), G w w' → Ret P f (fs ++ #[.int .i64 k] ++ cs) w' fun r w'' => r = .bool (q k) ∧ G w' w''
theorem FnV.grow {P : Program} {q : Int → Bool} {v : Value} {w w' : World} (h : FnV P q v w) (g : G w w') : FnV P q v w' := by
 obtain ⟨f, fs, cs, rfl, h1, h2⟩ := h
 exact ⟨f, fs, cs, rfl, h1, fun k w'' g' => h2 k w'' (g.trans g')⟩
theorem Wra {P : Program} {q : Int → Bool} {f : Nat} (hgo : goFn P f = true) (h : ∀ (k : Int) (w : World), Ret P f #[.int .i64 k] w fun r w' => r = .bool (q k) ∧ G w w') (w : World) : FnV P q (.func (.func f) #[] #[]) w :=
 ⟨f, #[], #[], rfl, hgo, fun k w' _ => by simpa using h k w'⟩
section
variable {P : Program} {Z : List PanicEntry → Act → World → Prop} {ops : List Oper} {cl : List Nat} {lv : List Bool} {W0 : World} {n : Nat} {K : Act → World → Prop} {k : Nat} {rest : List Oper} {σ : List Ent} {w : World} {d : Nat} {ty : TypeId} {pos : String} {after : Array Edge}
theorem Wqf {g t : Nat} {want b : Bool} {c0 : Prop} {op : Op} {v : Value} {w' : World} (hb : (!Nat.beq (clOf cl k) 0 && !Nat.beq (clOf cl k) 3 && Nat.blt d n) = true)
  (hgd : ((ops.toArray[g]?).bind (·.dst)) = some t) (hlk : look σ t = some (c0, .bool b)) (hr : RunV P n σ (c0 ∧ b = want) w op ty v w') (hg : G w w')
  (h : (c0 ∧ b = want) → SR P Z ops cl lv W0 n K (k + 1) rest ((d, c0 ∧ b = want, v) :: σ) w') (h' : ¬ (c0 ∧ b = want) → SR P Z ops cl lv W0 n K (k + 1) rest ((d, c0 ∧ b = want, v) :: σ) w) :
  SR P Z ops cl lv W0 n K k (⟨some d, op, ty, pos, after, some (g, want)⟩ :: rest) σ w := fun hl a ha => by
 obtain ⟨h0, h1⟩ := Zya hl
 simp only [Bool.and_eq_true, Bool.not_eq_true'] at hb
 rw [List.length_cons, List.range'_succ]
 have hw := Zub (op := op) (ty := ty) (pos := pos) (after := after) (want := want) (d := some d) hgd hlk ha
 refine ⟨_, h0, ?_⟩
 rw [if_neg (fun he => by rcases he with he | he <;> rw [he] at hb <;> simp at hb)]
 by_cases hh : c0 ∧ b = want
 ·rw [if_pos (hw.2 hh)]
  exact .inl ⟨v, w', hr _ _ _ _ a ha hh, fun _ => hg, h hh h1 _ (ha.put hb.2 (fun _ => rfl) (fun hn => absurd hh hn))⟩
 ·rw [if_neg (fun hq => hh (hw.1 hq))]
  exact h' hh h1 _ (ha.put hb.2 (fun hq => absurd hq hh) (fun _ => rfl))
theorem Wnb {g t0 : Nat} {want bb : Bool} {c0 : Prop} {t e z by_ m : Nat} {ps : Array (Nat × Operand)} {vs : List (Nat × Value)} {zv : Value} (l : List Value) (hb : (!Nat.beq (clOf cl k) 0 && !Nat.beq (clOf cl k) 3 && Nat.blt d n) = true) (hgd : ((ops.toArray[g]?).bind (·.dst)) = some t0) (hlk : look σ t0 = some (c0, .bool bb))
  (ht : tyElem P t = some (e, z, by_)) (hz : zeroOf P e = some zv)
  (hx : Via n σ (c0 ∧ bb = want) ps vs) (hm : (Nat.ble (m * z) 16777216 && !Nat.beq (m * z) 0 && Nat.beq vs.length m) = true) (hf : Jsc z 0 vs = some l)
  (h : ∀ b w1, G w w1 → (c0 ∧ bb = want → Blk w1 b e l) → SR P Z ops cl lv W0 n K (k + 1) rest ((d, c0 ∧ bb = want, .slice (some ⟨b, 0, none⟩) m m) :: σ) w1) :
  SR P Z ops cl lv W0 n K k (⟨some d, .buildSlice t m ps, ty, pos, after, some (g, want)⟩ :: rest) σ w := by
 obtain ⟨hu, i, hi, hsz, _⟩ := Jc ht
 obtain ⟨i', hi', hz'⟩ := Ula hz
 obtain rfl : i = i' := Option.some.inj (hi.symm.trans hi')
 simp only [Bool.and_eq_true, Bool.not_eq_true'] at hm
 have hm1 : ¬ (m * z > 2 ^ 24) := by have := Nat.le_of_ble_eq_true hm.1.1; omega
 have hm2 : ¬ (m * z = 0) := by intro he; rw [he] at hm; simp at hm
 have hvl := Nat.eq_of_beq_eq_true hm.2
 have hfill : Instr.fill (fun i => some (i * z, z)) ((Array.range (m * z)).map (zv.cells[· % zv.cells.size]!)) vs = some l.toArray := by
  have h1 := Uxb z vs 0 [] ((Array.range (m * z)).map (zv.cells[· % zv.cells.size]!)).toList l hf (by simp) (by simp [hvl]) (by simp)
  have := Veb _ _ _ _ h1
  rwa [Array.toArray_toList] at this
 refine Wqf hb hgd hlk (w' := w.alloc (.cells l.toArray e)) (v := .slice (some ⟨w.heap.size, 0, none⟩) m m) (fun d pos after g a ha hc => ?_) (Yra w e l).g (fun hc => h _ _ (Yra w e l).g (fun _ => (Yra w e l).blk)) (fun hc => h _ _ (G.refl w) (fun hq => absurd hq hc))
 have hx' := hx a ha hc
 simp only [execOp, Instr.buildSlice, Sem.run_bind, run_underlying hu, Result.andThen_ok, sizeOf, typeInfo, run_program, hi, Sem.run_pure, hsz, if_neg hm1, if_neg hm2, zeroValue, hz']
 rw [hx', hfill]
 simp [newRow]
end
section
variable {P : Program} {n : Nat} {σ : List Ent} {c : Prop} {wb : World} {ty : TypeId} {v : Value}
theorem Uhd {t e z by_ : Nat} {x y : Operand} {o : Option Addr} {m q : Nat} {k : IntKind} (ht : tyElem P t = some (e, z, by_)) (h : Ev n σ c x (.slice o m q)) (h' : Ev n σ c y (.int k 0)) :
  Rd P n σ c wb (.slice t x (some y) none none) ty (.slice o m q) := fun d pos after gd a ha hc w1 _ => by
 obtain ⟨hu, inf, hin, hz, _⟩ := Jc ht
 have e2 : o.map (fun b => Addr.add b 0) = o := by cases o <;> simp [Addr.add]
 simp only [execOp, h a ha hc, h' a ha hc, Instr.sliceAt, Option.map_some, Option.map_none, Sem.run_bind, run_underlying hu, Result.andThen_ok]
 simp [Instr.slice, run_underlying hu, Instr.sliceBounds, Instr.sliceBound, asIntOf, Qnb hin, e2]
end
def typK (k : Int) : Bool := anyK [7, 8] k
def expK (k : Int) : Bool := anyK [28, 29, 30, 31, 32, 33, 35, 36, 37, 27, 34, 24, 25, 26, 38] k
def stK (k : Int) : Bool := anyK [6, 10, 11, 12, 13, 14, 15, 16, 17, 21, 18, 19, 20, 22] k
def memK (l : List Int) (k : Int) : Bool := decide (k ∈ l)
theorem Zne (s : List UInt8) (w : World) (hL : Laid w) (hb3 : 4 ≤ w.heap.size) : Ret PP Vuc #[Str s] w fun v w' => v = .bool (nameB s) ∧ G w w' := by
  have g := G.refl w
  refine Yp (m := 34) Zfc J J [(0, True, _)] (Za J (Zj _)) ?_
  refine Ze (Zg (Zp J (Zb (kq (Ze (Zg (Zt J (Ya J (Zo Xad Yo (aqc J aq0) J) (Wff s _ (hL.grow g) (by have := g.size; omega)) ?_))))))))
  rintro v8 w8 ⟨l, rfl, hT, g8⟩
  obtain ⟨a, c, rfl, hr⟩ := Zie hT
  refine ⟨fun _ => g8, ?_⟩
  have g := g.trans g8
  refine Zt J (Qc J J (Qc J J (Qc J J (Zp J (Zp J (Zp J (Zb (kq (Ze (Zg (Zt J (Xt J J (Zt J (Zn J J J (fun _ => Yl (Zk J)) (Zn J J J (fun _ => Zea Qe (Zq J id)) (Zn J J J (fun _ => Vt (Zq J id) Xy) (?_)))))))))))))))))
  refine Yi J (fun _ => Zz (Zk J) (Zq J id)) (Zt J (Zn J J J (fun _ => Yl (Zk J)) (Zn J J J (fun _ => Wj Qe (Zq J id) Xy (fun hc => by have := of_decide_eq_true (Bool.and_eq_true_iff.1 hc.2).2; omega) (fun hc => (hr (by have := of_decide_eq_true (Bool.and_eq_true_iff.1 hc.2).2; omega)).1)) (Zn J J J (fun _ => Zv Qea (Zq J id)) (Yj J J J (Ye Zu (Zq J id) (fun hc => (hr (by have := of_decide_eq_true (Bool.and_eq_true_iff.1 hc.2).2; omega)).2 0 _ J)) (Zn J J J (fun _ => Vt (Zq J id) Xy) (Yi J (fun _ => Zz (Zk J) (Zq J id)) (Zt J (Zn J J J (fun _ => Yl (Zk J)) (Zn J J J (fun _ => Wj Qe (Zq J id) Xy (fun hc => by have := of_decide_eq_true (Bool.and_eq_true_iff.1 (Bool.and_eq_true_iff.1 hc.2).1).2; omega) (fun hc => (hr (by have := of_decide_eq_true (Bool.and_eq_true_iff.1 (Bool.and_eq_true_iff.1 hc.2).1).2; omega)).1)) (Zn J J J (fun _ => Zv Web (Zq J id)) (Yj J J J (Ye Yr (Zq J id) (fun hc => (hr (by have := of_decide_eq_true (Bool.and_eq_true_iff.1 (Bool.and_eq_true_iff.1 hc.2).1).2; omega)).2 1 _ J)) (Zn J J J (fun _ => Yl (Zk J)) (Zn J J J (fun _ => Yya (Zq J id) (Zq J id)) (Yi J (fun _ => Zz (Zk J) (Zq J id)) (?_))))))))))))))))
  refine Zp J (Zb (kq (Zr (Yx J J ?_))))
  refine ⟨Ygg ?_, g⟩
  rw [← Jfe]; rfl
theorem Wob (k : Int) (w : World) : Ret PP Xic #[.int .i64 k] w fun v w' => v = .bool (typK k) ∧ G w w' := by
  have g := G.refl w
  refine Yp (m := 9) Jcb J J [(0, True, _)] (Za J (Zj _)) ?_
  refine Ze (Zg (Zp J (Zb (kq (Ze (Zg (Zt J (Xt J J (Zt J (Zn J J J (fun _ => Yl (Zk J)) (Zn J J J (fun _ => Vt (Zq J id) Xy) (Yi J (fun _ => Xh (Zk J) (Zq J id)) (Zp J (Zb (kq (Zr (Yx J J ?_)))))))))))))))))
  exact ⟨rfl, g⟩
theorem Zca (k : Int) (w : World) : Ret PP Xwb #[.int .i64 k] w fun v w' => v = .bool (expK k) ∧ G w w' := by
  have g := G.refl w
  refine Yp (m := 20) Ydb J J [(0, True, _)] (Za J (Zj _)) ?_
  refine Ze (Zg (Zp J (Zb (kq (Ze (Ze (Zg (Zt J (Zb (kq (Yu (Ze (Ze (Zg (Xt J J (Zp J (Zb (kq (?_)))))))))))))))))))
  refine' Xi [(2, _, _)] (Za J (Za J (Zj _))) J (fun hb1 => ?y1) (kq ?n1)
  case y1 =>
   refine Ze (Zg (Xt J J (Zp J (Zb (kq (?_))))))
   refine' Xi [(2, _, _)] (Za J (Za J (Zj _))) J (fun hb2 => ?y2) knr
   case y2 =>
    refine Ze (Zg (Xt J J (Zp J (Zb (kq (?_))))))
    refine' Xi [(2, _, _)] (Za J (Za J (Zj _))) J (fun hb3 => ?y3) knr
    case y3 =>
     refine Ze (Zg (Xt J J (Zp J (Zb (kq (?_))))))
     refine' Xi [(2, _, _)] (Za J (Za J (Zj _))) J (fun hb4 => ?y4) knr
     case y4 =>
      refine Ze (Zg (Xt J J (Zp J (Zb (kq (?_))))))
      refine' Xi [(2, _, _)] (Za J (Za J (Zj _))) J (fun hb5 => ?y5) knr
      case y5 =>
       refine Ze (Zg (Xt J J (Zp J (Zb (kq (?_))))))
       refine' Xi [(2, _, _)] (Za J (Za J (Zj _))) J (fun hb6 => ?y6) knr
       case y6 =>
        refine Ze (Zg (Xt J J (Zp J (Zb (kq (?_))))))
        refine' Xi [(2, _, _)] (Za J (Za J (Zj _))) J (fun hb7 => ?y7) knr
        case y7 =>
         refine Ze (Zg (Xt J J (Zp J (Zb (kq (?_))))))
         refine' Xi [(2, _, _)] (Za J (Za J (Zj _))) J (fun hb8 => ?y8) knr
         case y8 =>
          refine Ze (Zg (Xt J J (Zp J (Zb (kq (?_))))))
          refine' Xi [(2, _, _)] (Za J (Za J (Zj _))) J (fun hb9 => ?y9) knr
          case y9 =>
           refine Ze (Zg (Xt J J (Zp J (Zb (kq (?_))))))
           refine' Xi [(2, _, _)] (Za J (Za J (Zj _))) J (fun hb10 => ?y10) knr
           case y10 =>
            refine Ze (Zg (Xt J J (Zp J (Zb (kq (?_))))))
            refine' Xi [(2, _, _)] (Za J (Za J (Zj _))) J (fun hb11 => ?y11) knr
            case y11 =>
             refine Ze (Zg (Xt J J (Zp J (Zb (kq (?_))))))
             refine' Xi [(2, _, _)] (Za J (Za J (Zj _))) J (fun hb12 => ?y12) knr
             case y12 =>
              refine Ze (Zg (Xt J J (Zp J (Zb (kq (?_))))))
              refine' Xi [(2, _, _)] (Za J (Za J (Zj _))) J (fun hb13 => ?y13) knr
              case y13 =>
               refine Ze (Zg (Xt J J (Zp J (Zb (kq (?_))))))
               refine' Xi [(2, _, _)] (Za J (Za J (Zj _))) J (fun hb14 => ?y14) knr
               case y14 =>
                refine Zg (Xt J J (Zp J (Wh [(4, _, _), (2, _, _)] (Za J (Za J (Zj _))) (?_))))
                exact Zb knr
  case n1 =>
   refine Yv J (fun h15 => ?_) (fun h15 => ?_)
   · (try simp only [Xq] at h15)
     refine Ze (Zg (Zp J (Zb (kq (Zr (Yx J J ?_))))))
     refine ⟨Ygg ?_, g⟩
     simp only [expK, anyK]; exact (h15).symm
   refine Yc (kq (Ze (Zg (Zp J (Zb (kq (Zr (Yx J J ?_))))))))
   refine ⟨Ygg ?_, g⟩
   simp only [expK, anyK]; exact (h15).symm
theorem Xrd (k : Int) (w : World) : Ret PP Vtb #[.int .i64 k] w fun v w' => v = .bool (stK k) ∧ G w w' := by
  have g := G.refl w
  refine Yp (m := 19) Xgb J J [(0, True, _)] (Za J (Zj _)) ?_
  refine Ze (Zg (Zp J (Zb (kq (Ze (Ze (Zg (Zt J (Zb (kq (Yu (Ze (Ze (Zg (Xt J J (Zp J (Zb (kq (?_)))))))))))))))))))
  refine' Xi [(2, _, _)] (Za J (Za J (Zj _))) J (fun hb1 => ?y1) (kq ?n1)
  case y1 =>
   refine Ze (Zg (Xt J J (Zp J (Zb (kq (?_))))))
   refine' Xi [(2, _, _)] (Za J (Za J (Zj _))) J (fun hb2 => ?y2) knr
   case y2 =>
    refine Ze (Zg (Xt J J (Zp J (Zb (kq (?_))))))
    refine' Xi [(2, _, _)] (Za J (Za J (Zj _))) J (fun hb3 => ?y3) knr
    case y3 =>
     refine Ze (Zg (Xt J J (Zp J (Zb (kq (?_))))))
     refine' Xi [(2, _, _)] (Za J (Za J (Zj _))) J (fun hb4 => ?y4) knr
     case y4 =>
      refine Ze (Zg (Xt J J (Zp J (Zb (kq (?_))))))
      refine' Xi [(2, _, _)] (Za J (Za J (Zj _))) J (fun hb5 => ?y5) knr
      case y5 =>
       refine Ze (Zg (Xt J J (Zp J (Zb (kq (?_))))))
       refine' Xi [(2, _, _)] (Za J (Za J (Zj _))) J (fun hb6 => ?y6) knr
       case y6 =>
        refine Ze (Zg (Xt J J (Zp J (Zb (kq (?_))))))
        refine' Xi [(2, _, _)] (Za J (Za J (Zj _))) J (fun hb7 => ?y7) knr
        case y7 =>
         refine Ze (Zg (Xt J J (Zp J (Zb (kq (?_))))))
         refine' Xi [(2, _, _)] (Za J (Za J (Zj _))) J (fun hb8 => ?y8) knr
         case y8 =>
          refine Ze (Zg (Xt J J (Zp J (Zb (kq (?_))))))
          refine' Xi [(2, _, _)] (Za J (Za J (Zj _))) J (fun hb9 => ?y9) knr
          case y9 =>
           refine Ze (Zg (Xt J J (Zp J (Zb (kq (?_))))))
           refine' Xi [(2, _, _)] (Za J (Za J (Zj _))) J (fun hb10 => ?y10) knr
           case y10 =>
            refine Ze (Zg (Xt J J (Zp J (Zb (kq (?_))))))
            refine' Xi [(2, _, _)] (Za J (Za J (Zj _))) J (fun hb11 => ?y11) knr
            case y11 =>
             refine Ze (Zg (Xt J J (Zp J (Zb (kq (?_))))))
             refine' Xi [(2, _, _)] (Za J (Za J (Zj _))) J (fun hb12 => ?y12) knr
             case y12 =>
              refine Ze (Zg (Xt J J (Zp J (Zb (kq (?_))))))
              refine' Xi [(2, _, _)] (Za J (Za J (Zj _))) J (fun hb13 => ?y13) knr
              case y13 =>
               refine Zg (Xt J J (Zp J (Wh [(4, _, _), (2, _, _)] (Za J (Za J (Zj _))) (?_))))
               exact Zb knr
  case n1 =>
   refine Yv J (fun h14 => ?_) (fun h14 => ?_)
   · (try simp only [Xq] at h14)
     refine Ze (Zg (Zp J (Zb (kq (Zr (Yx J J ?_))))))
     refine ⟨Ygg ?_, g⟩
     simp only [stK, anyK]; exact (h14).symm
   refine Yc (kq (Ze (Zg (Zp J (Zb (kq (Zr (Yx J J ?_))))))))
   refine ⟨Ygg ?_, g⟩
   simp only [stK, anyK]; exact (h14).symm
theorem Vne (l : List Int) (b : Nat) (p : Option Addr) (c : Nat) (k : Int) (w : World) (hB : Blk w b Vce [.slice p l.length c]) (hp : 0 < l.length → ∃ b o, p = some ⟨b, o, none⟩ ∧ RowAt w b o (l.map (Value.int .i64))) (hl : l.length ≤ 1000) :
    Ret PP Jgb #[.int .i64 k, .pointer (some ⟨b, 0, none⟩)] w fun v w' => v = .bool (memK l k) ∧ G w w' := by
  have g := G.refl w
  refine Yp (m := 16) Vyb J J [(0, True, _), (1, True, _)] (Za J (Za J (Zj _))) ?_
  refine Ze (Zg (Zp J (Zb (kq (Ze (Ze (Zg (Yg Qba J ((hB.grow g).at_ J) (Qu Ul J (Zt J (Zb (kq (Yu (Qq (fun (i : Nat) u1 => (i ≤ l.length ∧ ∀ j, (h : j < l.length) → j < i → l[j] ≠ k) ∧ G w u1) [(0, True, _), (6, True, _), (7, True, _)] (fun (i : Nat) => [(8, True, .int .i64 i)]) (fun (i : Nat) => l.length - i) (0) ⟨⟨Nat.zero_le _, fun j _ hj => absurd hj (Nat.not_lt_zero j)⟩, G.refl _⟩ (Za J (Za J (Za J (Za J (Zj _))))) ?_))))))))))))))
  rintro i u1 ⟨hI1, gl1⟩
  have g := g.trans gl1
  refine Ze (Zg (Zfa J J (Zb (kq (Ze (Yv J (fun h1 => ?_) (fun h1 => ?_)))))))
  · replace h1 : i < l.length := by simp only [decide_eq_true_eq] at h1; omega
    obtain ⟨b2, o2, rfl, hR⟩ := hp (by omega)
    have hv : (l.map (Value.int .i64))[i * 1]? = some (.int .i64 l[i]) := by simp [h1]
    refine Yc (kq (Ze (Yu (Ze (Zg (Jta Ul J J (by omega) (Yg Zu J ((hR.grow g) _ _ hv) (Zp J (Zb (kq (Ze (Zg (Zt J (Zt J (Xt J J (Zb (kq (Yv J (fun h2 => ?_) (fun h2 => ?_)))))))))))))))))))
    · simp only [decide_eq_true_eq] at h2
      refine Ze (Zg (Zp J (Zb (kq (Zr (Yx J J ?_))))))
      refine ⟨Ygg ?_, g⟩
      rw [memK, eq_comm, decide_eq_true_eq, ← h2]; exact List.getElem_mem h1
    simp only [decide_eq_false_iff_not] at h2
    refine Yc (kq (Zg (Qv J J (by omega) (Zt J (Wh [(8, _, _), (0, _, _), (6, _, _), (7, _, _)] (Za J (Za J (Za J (Za J (Zj _))))) (Zb (fun a ha => ?_)))))))
    refine ⟨i + 1, ha, ⟨⟨h1, fun j h hj => ?_⟩, gl1⟩, by omega⟩
    by_cases e : j = i
    · subst e; exact h2
    · exact hI1.2 j h (by omega)
  refine Vq J (kq (Ze (Zg (Zp J (Zb (kq (Zr (Yx J J ?_))))))))
  refine ⟨Ygg ?_, g⟩
  rw [memK, eq_comm, decide_eq_false_iff_not]
  intro hm
  obtain ⟨j, hj, e⟩ := List.getElem_of_mem hm
  simp only [decide_eq_false_iff_not] at h1
  exact hI1.2 j hj (by omega) e
theorem Xba (l : List Int) (b o c : Nat) (w : World) (hR : RowAt w b o (l.map (Value.int .i64))) (hl : l.length ≤ 1000) : Ret PP Xgc #[.slice (some ⟨b, o, none⟩) l.length c] w fun v w' => FnV PP (memK l) v w' ∧ G w w' := by
  have g := G.refl w
  refine Yp (m := 4) Jab J J [(0, True, _)] (Za J (Zj _)) ?_
  refine Ze (Zg (Wq J (Zk J) J ?_))
  intro b1 w1 N1
  have l1 := N1.ge g
  have g := g.trans N1.g
  have E := (Wo _).new N1
  refine Zp J (Zb (kq (Ze (Zg (Yi J (fun _ => Ywe (aq0) (aqc J aq0)) (Zp J (Zb (kq (Zr (Yx J J ?_))))))))))
  refine ⟨⟨_, _, _, rfl, Jhb, fun k w' g' => ?_⟩, g⟩
  exact Vne l _ _ _ k w' (E.g0.grow g') (fun _ => ⟨b, o, rfl, (hR.grow g).grow g'⟩) hl
theorem Zoe (q r : Int → Bool) (f h : Value) (b1 b2 : Nat) (k : Int) (w : World) (h1 : Blk w b1 Zhb [f]) (h2 : Blk w b2 Zhb [h]) (hF : FnV PP q f w) (hH : FnV PP r h w) :
    Ret PP Qcb #[.int .i64 k, .pointer (some ⟨b1, 0, none⟩), .pointer (some ⟨b2, 0, none⟩)] w fun v w' => v = .bool (q k || r k) ∧ G w w' := by
  have g := G.refl w
  obtain ⟨f0, fs0, cs0, rfl, hgo0, hf0⟩ := hF
  obtain ⟨f1, fs1, cs1, rfl, hgo1, hf1⟩ := hH
  refine Yp (m := 13) Wbb J J [(0, True, _), (1, True, _), (2, True, _)] (Za J (Za J (Za J (Zj _)))) ?_
  refine Ze (Zg (Zp J (Zb (kq (Ze (Zg (Yg Woa J ((h1.grow g).at_ J) (Zt J (Xk J (Zo hgo0 (Zk J) (aqc J aq0) J) (hf0 k _ g) (fun w7 g7 => ?_))))))))))
  have g := g.trans g7
  refine Zt J (Yj J J J (Ye Woa (Zk J) (fun _ => (h2.grow g).at_ J)) (Zn J J J (fun _ => Yl (Zk J)) (We J J J (fun _ => (Zo hgo1 (Zq J id) (Xf (Zq J id) (Xw)) J)) (fun hc => hf1 k _ g) (fun w11 g11 => ?_))))
  have g := g.trans g11
  refine Yi J (fun _ => Xh (Zk J) (Zq J id)) (Zp J (Zb (kq (Zr (Yx J J ?_)))))
  exact ⟨rfl, g⟩
theorem Zkb (q : Int → Bool) (l : List Int) (f : Value) (b o c : Nat) (w : World) (hF : FnV PP q f w) (hR : RowAt w b o (l.map (Value.int .i64))) (hl : l.length ≤ 1000) : Ret PP Zhc #[f, .slice (some ⟨b, o, none⟩) l.length c] w fun v w' => FnV PP (fun k => q k || memK l k) v w' ∧ G w w' := by
  have g := G.refl w
  have hF0 := hF
  obtain ⟨f0, fs0, cs0, rfl, hgo0, hf0⟩ := hF
  refine Yp (m := 9) Qab J J [(0, True, _), (1, True, _)] (Za J (Za J (Zj _))) ?_
  refine Ze (Zg (Wq J (Zk J) J ?_))
  intro b2 w2 N2
  have l2 := N2.ge g
  have g := g.trans N2.g
  have E := (Wo _).new N2
  refine Zp J (Zb (kq (Ze (Zg (Zt J (Ya J (Zo Qd Yo (aqc J aq0) J) (Xba l _ _ _ _ (hR.grow g) hl) ?_))))))
  rintro v7 w7 ⟨hA, g7⟩
  refine ⟨fun _ => g7, ?_⟩
  have g := g.trans g7
  have hA0 := hA
  obtain ⟨f1, fs1, cs1, rfl, hgo1, hf1⟩ := hA
  replace E := E.grow g7
  have gm := G.refl w7
  refine Yh J Vu J ?_
  intro b5 w5 N5
  have l5 := N5.ge g
  have l5_gm := N5.ge gm
  have g := g.trans N5.g
  have gm := gm.trans (N5.g)
  replace E := E.new N5
  refine Yt Zmc J J J E.g0 ?_
  intro wS1 hgS1 _ BS
  replace E := E.s0 hgS1 BS
  have g := Zw g hgS1 (by omega)
  first | replace gm := Zw gm hgS1 (by omega) | clear gm | skip
  refine Zb (kq (Ze (Zg (Yi J (fun _ => Ywe (aq0) (aqc J (aqc J aq0))) (Zp J (Zb (kq (Zr (Yx J J ?_)))))))))
  refine ⟨⟨_, _, _, rfl, Qdb, fun k w' g' => ?_⟩, g⟩
  exact Zoe q (memK l) _ _ _ _ k w' (E.g1.grow g') (E.g0.grow g') ((hF0.grow g).grow g') ((hA0.grow gm).grow g')
def Zd (t : Nd) (i : Nat) : Nd := t.kids.getD i nd0
theorem Wm {t : Nd} {i : Nat} (h : i < t.kids.length) : Zd t i = t.kids[i] := by simp [Zd, List.getD_eq_getElem?_getD, List.getElem?_eq_getElem h]
def kidsB (t : Nd) (qs : List (Int → Bool)) : Bool := decide (t.kids.length = qs.length) && (List.range qs.length).all fun i => (qs.getD i (fun _ => false)) (Zd t i).kind
def everyB (t : Nd) (q : Int → Bool) : Bool := t.kids.all fun k => q k.kind
theorem Xla (t : Nd) (p : Option Addr) (c : Nat) (D : Nat → Prop) (qs : List (Int → Bool)) (vs : List Value) (b o cap : Nat) (w : World) (hk : Kd w D t.kids (.slice p t.kids.length c)) (hl : vs.length = qs.length) (hR : RowAt w b o vs)
    (hF : ∀ i (h : i < vs.length), FnV PP (qs.getD i (fun _ => false)) vs[i] w) (hc : t.kids.length ≤ 1000000) : Ret PP Vwc #[ndV t (.slice p t.kids.length c), .slice (some ⟨b, o, none⟩) qs.length cap] w fun v w' => v = .bool (kidsB t qs) ∧ G w w' := by
  have g := G.refl w
  obtain ⟨p', c', hpe, _, hks⟩ := hk
  injection hpe with hpe _ hce
  subst hpe hce
  refine Yp (m := 30) Zgc J J [(0, True, _), (1, True, _)] (Za J (Za J (Zj _))) ?_
  refine Ze (Zg (Wq J (Zk J) J ?_))
  intro b2 w2 N2
  have l2 := N2.ge g
  have g := g.trans N2.g
  have E := (Wo _).new N2
  refine Zp J (Zb (kq (Ze (Ze (Zg (Zx Zi J (Yg Zh J (E.g0.at_ J) (Qu Zf J (Zt J (Qu Wu J (Wja J J (Zb (kq (Yv J (fun h1 => ?_) (fun h1 => ?_)))))))))))))))
  · have hN : kidsB t qs = false := by
      have : ¬ t.kids.length = qs.length := by simp at h1; omega
      rw [kidsB, Yeg this]; rfl
    refine Ze (Zg (Zp J (Zb (kq (Zr (Yx J J ?_))))))
    rw [hN]; exact ⟨rfl, g⟩
  have hle : t.kids.length = qs.length := by simp at h1; omega
  refine Yc (kq (Ze (Ze (Zg (Zt J (Qu Wu J (Zt J (Zb (kq (Yu (Qq (fun (i : Nat) u1 => (i ≤ qs.length ∧ ∀ j, j < i → (qs.getD j (fun _ => false)) (Zd t j).kind = true) ∧ G w2 u1) [(2, True, _), (13, True, _), (14, True, _)] (fun (i : Nat) => [(15, True, .int .i64 i)]) (fun (i : Nat) => qs.length - i) (0) ⟨⟨Nat.zero_le _, fun j hj => absurd hj (Nat.not_lt_zero j)⟩, G.refl _⟩ (Za J (Za J (Za J (Za J (Zj _))))) ?_)))))))))))
  rintro i u1 ⟨hI1, gl1⟩
  have g := g.trans gl1
  replace E := E.grow gl1
  refine Ze (Zg (Zfa J J (Zb (kq (Ze (Yv J (fun h2 => ?_) (fun h2 => ?_)))))))
  · replace h2 : i < qs.length := by simp only [decide_eq_true_eq] at h2; omega
    obtain ⟨f, fs, cs, hfe, hgo, hf⟩ := hF i (by omega)
    have hv := hR i _ (List.getElem?_eq_getElem (show i < vs.length by omega))
    rw [hfe] at hv
    obtain ⟨b2, o2, rfl, hD, xs, hR2, hX⟩ := hks (by omega)
    obtain ⟨p2, c2, hcell, _⟩ := Qta hR2 hX (show i < t.kids.length by omega)
    rw [← Wm] at hcell
    refine Yc (kq (Ze (Yu (Ze (Zg (Zt J (Jta Wu J J (by omega) (Yg Woa J (by have := Jra g hv; simpa using this) (Zp J (Zp J (Zb (kq (Ze (Zg (Zt J (Zx Zi J (Yg Zh J (E.g0.at_ J) (?_))))))))))))))))))
    refine Zt J (Jta Zf J J (by omega) (Zx Yd J (Yg Zu J ((hcell.grow g) 0 _ J) (Xk J (Zo hgo (Zk J) (aqc J aq0) J) (hf _ _ g) (fun w27 g27 => ?_)))))
    have g := g.trans g27
    have gl1 := gl1.trans (g27)
    replace E := E.grow g27
    refine Wia J (Zb (kq (Yv J (fun h3 => ?_) (fun h3 => ?_))))
    · (try simp only [Xq] at h3)
      refine Ze (Zg (Zp J (Zb (kq (Zr (Yx J J ?_))))))
      refine ⟨Ygg ?_, g⟩
      rw [eq_comm, kidsB, Yfg hle, Bool.true_and, List.all_eq_false]
      exact ⟨i, List.mem_range.2 h2, by simpa using h3⟩
    refine Yc (kq (Zg (Qv J J (by omega) (Zt J (Wh [(15, _, _), (2, _, _), (13, _, _), (14, _, _)] (Za J (Za J (Za J (Za J (Zj _))))) (Zb (fun a ha => ?_)))))))
    refine ⟨i + 1, ha, ⟨⟨h2, fun j hj => ?_⟩, gl1⟩, by omega⟩
    by_cases e : j = i
    · subst e; simpa using h3
    · exact hI1.2 j (by omega)
  refine Vq J (kq (Ze (Zg (Zp J (Zb (kq (Zr (Yx J J ?_))))))))
  refine ⟨Ygg ?_, g⟩
  rw [eq_comm, kidsB, Yfg hle, Bool.true_and, List.all_eq_true]
  intro j hj
  exact hI1.2 j (by have := List.mem_range.1 hj; simp only [decide_eq_false_iff_not] at h2; omega)
theorem Wpb (t : Nd) (p : Option Addr) (c : Nat) (D : Nat → Prop) (q : Int → Bool) (v : Value) (w : World) (hk : Kd w D t.kids (.slice p t.kids.length c)) (hF : FnV PP q v w) (hc : t.kids.length ≤ 1000000) : Ret PP Xhc #[ndV t (.slice p t.kids.length c), .int .i64 0, v] w fun v w' => v = .bool (everyB t q) ∧ G w w' := by
  have g := G.refl w
  obtain ⟨p', c', hpe, _, hks⟩ := hk
  injection hpe with hpe _ hce
  subst hpe hce
  obtain ⟨f, fs, cs, rfl, hgo, hf⟩ := hF
  refine Yp (m := 29) Jbb J J [(0, True, _), (1, True, _), (2, True, _)] (Za J (Za J (Za J (Zj _)))) ?_
  refine Ze (Zg (Wq J (Zk J) J ?_))
  intro b3 w3 N3
  have l3 := N3.ge g
  have g := g.trans N3.g
  have E := (Wo _).new N3
  refine Zp J (Zb (kq (Ze (Ze (Zg (Zx Zi J (Yg Zh J (E.g0.at_ J) (Qu Zf J (Zt J (Zfa J J (Zb (kq (Yv J (fun h1 => ?_) (fun h1 => ?_))))))))))))))
  · exfalso; simp only [decide_eq_true_eq] at h1; omega
    done
  refine Yc (kq (Ze (Ze (Zg (Zx Zi J (Yg Zh J (E.g0.at_ J) (Zt J (Yi J (fun _ => Uhd Zf (Zk J) (Zk J)) (Qu Zf J (Zt J (Zb (kq (Yu (Qq (fun (i : Nat) u1 => (i ≤ t.kids.length ∧ ∀ j, (h : j < t.kids.length) → j < i → q t.kids[j].kind = true) ∧ G w3 u1) [(2, True, _), (17, True, _), (18, True, _)] (fun (i : Nat) => [(19, True, .int .i64 i)]) (fun (i : Nat) => t.kids.length - i) (0) ⟨⟨Nat.zero_le _, fun j _ hj => absurd hj (Nat.not_lt_zero j)⟩, G.refl _⟩ (Za J (Za J (Za J (Za J (Zj _))))) ?_))))))))))))))
  rintro i u1 ⟨hI1, gl1⟩
  have g := g.trans gl1
  replace E := E.grow gl1
  refine Ze (Zg (Zfa J J (Zb (kq (Ze (Yv J (fun h2 => ?_) (fun h2 => ?_)))))))
  · replace h2 : i < t.kids.length := by simp only [decide_eq_true_eq] at h2; omega
    obtain ⟨b2, o2, rfl, hD, xs, hR2, hX⟩ := hks (by omega)
    obtain ⟨p2, c2, hcell, _⟩ := Qta hR2 hX h2
    refine Yc (kq (Ze (Yu (Ze (Zg (Jta Zf J J (by omega) (Yk Zc J J (hcell.grow g) (Yh J Zm J ?_))))))))
    intro b8 w8 N8
    have l8 := N8.ge g
    have l8_gl1 := N8.ge gl1
    have g := g.trans N8.g
    have gl1 := gl1.trans (N8.g)
    replace E := E.new N8
    refine Yt Zl J J J E.g0 ?_
    intro wS1 hgS1 _ BS
    replace E := E.s0 hgS1 BS
    have g := Zw g hgS1 (by omega)
    first | replace gl1 := Zw gl1 hgS1 (by omega) | clear gl1 | skip
    refine Zb (kq (Ze (Zg (Zt J (Zx Yd J (Yg Zu J (E.g0.at_ J) (Xk J (Zo hgo (Zk J) (aqc J aq0) J) (hf _ _ g) (fun w26 g26 => ?_))))))))
    have g := g.trans g26
    have gl1 := gl1.trans (g26)
    replace E := E.grow g26
    refine Wia J (Zb (kq (Yv J (fun h3 => ?_) (fun h3 => ?_))))
    · (try simp only [Xq] at h3)
      refine Ze (Zg (Zp J (Zb (kq (Zr (Yx J J ?_))))))
      refine ⟨Ygg ?_, g⟩
      rw [eq_comm, everyB, List.all_eq_false]
      exact ⟨_, List.getElem_mem h2, by simpa using h3⟩
    refine Yc (kq (Zg (Qv J J (by omega) (Zt J (Wh [(19, _, _), (2, _, _), (17, _, _), (18, _, _)] (Za J (Za J (Za J (Za J (Zj _))))) (Zb (fun a ha => ?_)))))))
    refine ⟨i + 1, ha, ⟨⟨h2, fun j h hj => ?_⟩, gl1⟩, by omega⟩
    by_cases e : j = i
    · subst e; simpa using h3
    · exact hI1.2 j h (by omega)
  refine Vq J (kq (Ze (Zg (Zp J (Zb (kq (Zr (Yx J J ?_))))))))
  refine ⟨Ygg ?_, g⟩
  rw [eq_comm, everyB, List.all_eq_true]
  intro x hx
  obtain ⟨j, hj, rfl⟩ := List.getElem_of_mem hx
  exact hI1.2 j hj (by simp only [decide_eq_false_iff_not] at h2; omega)
def commB (t : Nd) : Bool := bif anyK [9, 16] t.kind then true
  else bif anyK [13, 11] t.kind then decide (((t.kids.length : Int) - 1) = 0) && decide ((Zd t 0).kind = 33)
  else bif decide (t.kind = 12) then decide (((t.kids.length : Int) - 1) = 1) && decide ((Zd t 1).kind = 33) else false
theorem Xs {w : World} {D : Nat → Prop} {t : Nd} {p : Option Addr} {c : Nat} (hk : Kd w D t.kids (.slice p t.kids.length c)) {i : Nat} (h : i < t.kids.length) : p = some ⟨pb p, po p, none⟩ ∧ ∃ p' c', RowAt w (pb p) (po p + i * 9) (ndCells (Zd t i) (.slice p' (Zd t i).kids.length c')) ∧ Kd w D (Zd t i).kids (.slice p' (Zd t i).kids.length c') := by
  obtain ⟨p', c', hpe, _, hks⟩ := hk
  injection hpe with hpe _ hce
  subst hpe hce
  obtain ⟨b2, o2, rfl, hD, xs, hR2, hX⟩ := hks (by omega)
  refine ⟨rfl, ?_⟩
  rw [Wm h]
  exact Qta hR2 hX h
theorem Wrf (t : Nd) (p : Option Addr) (c : Nat) (D : Nat → Prop) (w : World) (hk : Kd w D t.kids (.slice p t.kids.length c)) (hc : t.kids.length ≤ 1000000) : Ret PP Jya #[ndV t (.slice p t.kids.length c)] w fun v w' => v = .bool (commB t) ∧ G w w' := by
   have g := G.refl w
   refine Yp (m := 38) Qna J J [(0, True, _)] (Za J (Zj _)) ?_
   refine Ze (Zg (Wq J (Zk J) J ?_))
   intro b1 w1 N1
   have l1 := N1.ge g
   have g := g.trans N1.g
   have E := (Wo _).new N1
   refine Zp J (Zb (kq (Ze (Zg (Zx Zi J (Yg Zh J (E.g0.at_ J) (Qu Zf J (Yi J (fun _ => Xxa (Zk J) Xy (fun _ => by omega)) (Zp J (Zb (kq (Ze (Ze (Zg (Zx Yd J (Yg Zu J (E.g0.at_ J) (Zb (kq (?_)))))))))))))))))))
   refine Yu (Ze (Ze (Zg (Xt J J (Zp J (Zb (kq (?_))))))))
   refine' Xi [(1, _, _), (2, _, _), (3, _, _), (9, _, _)] (Za J (Za J (Za J (Za J (Za J (Zj _)))))) J (fun hb1 => ?y1) (kq ?n1)
   case y1 =>
    refine Zg (Xt J J (Zp J (Wh [(10, _, _), (1, _, _), (2, _, _), (3, _, _), (9, _, _)] (Za J (Za J (Za J (Za J (Za J (Zj _)))))) (?_))))
    exact Zb knr
   case n1 =>
    refine Yv J (fun h2 => ?_) (fun h2 => ?_)
    · replace h2 : (anyK [9, 16] t.kind) = true := h2
      refine Ze (Zg (Zp J (Zb (kq (Zr (Yx J J ?_))))))
      refine ⟨Ygg ?_, g⟩
      unfold commB; simp only [h2, cond_true, cond_false] <;> rfl
    replace h2 : (anyK [9, 16] t.kind) = false := h2
    refine Ze (Ze (Zg (Xt J J (Zp J (Zb (kq (?_)))))))
    refine' Xi [(1, _, _), (2, _, _), (3, _, _), (9, _, _)] (Za J (Za J (Za J (Za J (Za J (Zj _)))))) J (fun hb3 => ?y3) (kq ?n3)
    case y3 =>
     refine Zg (Xt J J (Zp J (Wh [(13, _, _), (1, _, _), (2, _, _), (3, _, _), (9, _, _)] (Za J (Za J (Za J (Za J (Za J (Zj _)))))) (?_))))
     exact Zb knr
    case n3 =>
     refine Yv J (fun h4 => ?_) (fun h4 => ?_)
     · replace h4 : (anyK [13, 11] t.kind) = true := h4
       refine Ze (Zg (Zt J (Xt J J (Zt J (Zn J J J (fun _ => Zv Zi (Zk J)) (Yj J J J (Ye Zh (Zq J id) (fun _ => E.g0.at_ J)) (Zn J J J (fun _ => Wj Zf (Zq J id) Xy (fun hc => by have := of_decide_eq_true hc.2; omega) (fun hc => (Xs hk (i := 0) (by have := of_decide_eq_true hc.2; omega)).1)) (Zn J J J (fun _ => Zv Yd (Zq J id)) (Yj J J J (Ye Zu (Zq J id) (fun hc => by
 obtain ⟨_, p', c', hcell, _⟩ := Xs hk (i := 0) (by have := of_decide_eq_true hc.2; omega)
 exact (hcell.grow g) 0 _ rfl)) (Zn rfl rfl rfl (fun _ => Vt (Zq rfl id) Xy) (Yi rfl (fun _ => Zz (Zk rfl) (Zq rfl id)) (Zp rfl (Zb (kq (Zr (Yx rfl rfl ?_))))))))))))))))
       refine ⟨Ygg ?_, g⟩
       unfold commB; simp only [h2, h4, cond_true, cond_false] <;> rfl
     replace h4 : (anyK [13, 11] t.kind) = false := h4
     refine Ze (Zg (Xt J J (Zp J (Zb (kq (Yv J (fun h5 => ?_) (fun h5 => ?_)))))))
     · (try simp only [Xq] at h5)
       refine Ze (Zg (Zt J (Xt J J (Zt J (Zn J J J (fun _ => Zv Zi (Zk J)) (Yj J J J (Ye Zh (Zq J id) (fun _ => E.g0.at_ J)) (Zn J J J (fun _ => Wj Zf (Zq J id) Xy (fun hc => by have := of_decide_eq_true hc.2; omega) (fun hc => (Xs hk (i := 1) (by have := of_decide_eq_true hc.2; omega)).1)) (Zn J J J (fun _ => Zv Yd (Zq J id)) (Yj J J J (Ye Zu (Zq J id) (fun hc => by
 obtain ⟨_, p', c', hcell, _⟩ := Xs hk (i := 1) (by have := of_decide_eq_true hc.2; omega)
 exact (hcell.grow g) 0 _ rfl)) (Zn rfl rfl rfl (fun _ => Vt (Zq rfl id) Xy) (Yi rfl (fun _ => Zz (Zk rfl) (Zq rfl id)) (Zp rfl (Zb (kq (Zr (Yx rfl rfl ?_))))))))))))))))
       refine ⟨Ygg ?_, g⟩
       unfold commB; simp only [h2, h4, h5, cond_true, cond_false] <;> rfl
     refine Yc (kq (Ze (Zg (Zp J (Zb (kq (Zr (Yx J J ?_))))))))
     refine ⟨Ygg ?_, g⟩
     unfold commB; simp only [h2, h4, h5, cond_true, cond_false] <;> rfl
def textB' (t : Nd) : Bool := bif anyK [2, 3, 4, 6, 11, 28, 27, 34, 8] t.kind then nameB t.text
  else bif decide (t.kind = 31) then decide (t.text = [45]) || decide (t.text = [33])
  else bif decide (t.kind = 32) then anyS binOps t.text
  else bif decide (t.kind = 7) then typeNameB t.text
  else decide (t.text = [])
theorem Jue (t : Nd) (p : Option Addr) (c : Nat) (w : World) (hL : Laid w) (hb3 : 4 ≤ w.heap.size) : Ret PP Vnc #[ndV t (.slice p t.kids.length c)] w fun v w' => v = .bool (textB' t) ∧ G w w' := by
  have g := G.refl w
  refine Yp (m := 64) Zbc J J [(0, True, _)] (Za J (Zj _)) ?_
  refine Ze (Zg (Wq J (Zk J) J ?_))
  intro b1 w1 N1
  have l1 := N1.ge g
  have g := g.trans N1.g
  have E := (Wo _).new N1
  refine Zp J (Zb (kq (Ze (Ze (Zg (Zx Yd J (Yg Zu J (E.g0.at_ J) (Zb (kq (Yu (Ze (Ze (Zg (Xt J J (Zp J (Zb (kq (?_))))))))))))))))))
  refine' Xi [(1, _, _), (2, _, _), (4, _, _)] (Za J (Za J (Za J (Za J (Zj _))))) J (fun hb1 => ?y1) (kq ?n1)
  case y1 =>
   refine Ze (Zg (Xt J J (Zp J (Zb (kq (?_))))))
   refine' Xi [(1, _, _), (2, _, _), (4, _, _)] (Za J (Za J (Za J (Za J (Zj _))))) J (fun hb2 => ?y2) knr
   case y2 =>
    refine Ze (Zg (Xt J J (Zp J (Zb (kq (?_))))))
    refine' Xi [(1, _, _), (2, _, _), (4, _, _)] (Za J (Za J (Za J (Za J (Zj _))))) J (fun hb3 => ?y3) knr
    case y3 =>
     refine Ze (Zg (Xt J J (Zp J (Zb (kq (?_))))))
     refine' Xi [(1, _, _), (2, _, _), (4, _, _)] (Za J (Za J (Za J (Za J (Zj _))))) J (fun hb4 => ?y4) knr
     case y4 =>
      refine Ze (Zg (Xt J J (Zp J (Zb (kq (?_))))))
      refine' Xi [(1, _, _), (2, _, _), (4, _, _)] (Za J (Za J (Za J (Za J (Zj _))))) J (fun hb5 => ?y5) knr
      case y5 =>
       refine Ze (Zg (Xt J J (Zp J (Zb (kq (?_))))))
       refine' Xi [(1, _, _), (2, _, _), (4, _, _)] (Za J (Za J (Za J (Za J (Zj _))))) J (fun hb6 => ?y6) knr
       case y6 =>
        refine Ze (Zg (Xt J J (Zp J (Zb (kq (?_))))))
        refine' Xi [(1, _, _), (2, _, _), (4, _, _)] (Za J (Za J (Za J (Za J (Zj _))))) J (fun hb7 => ?y7) knr
        case y7 =>
         refine Ze (Zg (Xt J J (Zp J (Zb (kq (?_))))))
         refine' Xi [(1, _, _), (2, _, _), (4, _, _)] (Za J (Za J (Za J (Za J (Zj _))))) J (fun hb8 => ?y8) knr
         case y8 =>
          refine Zg (Xt J J (Zp J (Wh [(5, _, _), (1, _, _), (2, _, _), (4, _, _)] (Za J (Za J (Za J (Za J (Zj _))))) (?_))))
          exact Zb knr
  case n1 =>
   refine Yv J (fun h9 => ?_) (fun h9 => ?_)
   · replace h9 : (anyK [2, 3, 4, 6, 11, 28, 27, 34, 8] t.kind) = true := h9
     refine Ze (Zg (Zx Ym J (Yg Yr J (E.g0.at_ J) (Xk J (Zo Vvc Yo (aqc J aq0) J) (Zne _ _ (hL.grow g) (by have := g.size; omega)) (fun w17 g17 => ?_)))))
     have g := g.trans g17
     replace E := E.grow g17
     refine Zp J (Zb (kq (Zr (Yx J J ?_))))
     refine ⟨Ygg ?_, g⟩
     unfold textB'; simp only [binOps, typeNameB, Qg, anyS, h9, cond_true, cond_false] <;> rfl
   replace h9 : (anyK [2, 3, 4, 6, 11, 28, 27, 34, 8] t.kind) = false := h9
   refine Ze (Zg (Xt J J (Zp J (Zb (kq (Yv J (fun h10 => ?_) (fun h10 => ?_)))))))
   · (try simp only [Xq] at h10)
     refine Ze (Zg (Zx Ym J (Yg Yr J (E.g0.at_ J) (Wi J J (Zt J (Zn J J J (fun _ => Zv Ym (Zk J)) (Yj J J J (Ye Yr (Zq J id) (fun _ => E.g0.at_ J)) (Zn J J J (fun _ => Yya (Zq J id) Xy) (Yi J (fun _ => Xh (Zk J) (Zq J id)) (Zp J (Zb (kq (Zr (Yx J J ?_))))))))))))))
     refine ⟨Ygg ?_, g⟩
     unfold textB'; simp only [binOps, typeNameB, Qg, anyS, h9, h10, cond_true, cond_false] <;> rfl
   refine Ze (Zg (Xt J J (Zp J (Zb (kq (Yv J (fun h11 => ?_) (fun h11 => ?_)))))))
   · (try simp only [Xq] at h11)
     refine Ze (Ze (Zg (Zx Ym J (Yg Yr J (E.g0.at_ J) (Zb (kq (Yu (Ze (Ze (Zg (Wi J J (Zp J (Zb (kq (?_)))))))))))))))
     refine' Xi [(1, _, _), (2, _, _)] (Za J (Za J (Za J (Zj _)))) J (fun hb12 => ?y12) (kq ?n12)
     case y12 =>
      refine Ze (Zg (Wi J J (Zp J (Zb (kq (?_))))))
      refine' Xi [(1, _, _), (2, _, _)] (Za J (Za J (Za J (Zj _)))) J (fun hb13 => ?y13) knr
      case y13 =>
       refine Ze (Zg (Wi J J (Zp J (Zb (kq (?_))))))
       refine' Xi [(1, _, _), (2, _, _)] (Za J (Za J (Za J (Zj _)))) J (fun hb14 => ?y14) knr
       case y14 =>
        refine Ze (Zg (Wi J J (Zp J (Zb (kq (?_))))))
        refine' Xi [(1, _, _), (2, _, _)] (Za J (Za J (Za J (Zj _)))) J (fun hb15 => ?y15) knr
        case y15 =>
         refine Ze (Zg (Wi J J (Zp J (Zb (kq (?_))))))
         refine' Xi [(1, _, _), (2, _, _)] (Za J (Za J (Za J (Zj _)))) J (fun hb16 => ?y16) knr
         case y16 =>
          refine Ze (Zg (Wi J J (Zp J (Zb (kq (?_))))))
          refine' Xi [(1, _, _), (2, _, _)] (Za J (Za J (Za J (Zj _)))) J (fun hb17 => ?y17) knr
          case y17 =>
           refine Ze (Zg (Wi J J (Zp J (Zb (kq (?_))))))
           refine' Xi [(1, _, _), (2, _, _)] (Za J (Za J (Za J (Zj _)))) J (fun hb18 => ?y18) knr
           case y18 =>
            refine Ze (Zg (Wi J J (Zp J (Zb (kq (?_))))))
            refine' Xi [(1, _, _), (2, _, _)] (Za J (Za J (Za J (Zj _)))) J (fun hb19 => ?y19) knr
            case y19 =>
             refine Ze (Zg (Wi J J (Zp J (Zb (kq (?_))))))
             refine' Xi [(1, _, _), (2, _, _)] (Za J (Za J (Za J (Zj _)))) J (fun hb20 => ?y20) knr
             case y20 =>
              refine Ze (Zg (Wi J J (Zp J (Zb (kq (?_))))))
              refine' Xi [(1, _, _), (2, _, _)] (Za J (Za J (Za J (Zj _)))) J (fun hb21 => ?y21) knr
              case y21 =>
               refine Ze (Zg (Wi J J (Zp J (Zb (kq (?_))))))
               refine' Xi [(1, _, _), (2, _, _)] (Za J (Za J (Za J (Zj _)))) J (fun hb22 => ?y22) knr
               case y22 =>
                refine Ze (Zg (Wi J J (Zp J (Zb (kq (?_))))))
                refine' Xi [(1, _, _), (2, _, _)] (Za J (Za J (Za J (Zj _)))) J (fun hb23 => ?y23) knr
                case y23 =>
                 refine Zg (Wi J J (Zp J (Wh [(32, _, _), (1, _, _), (2, _, _)] (Za J (Za J (Za J (Zj _)))) (?_))))
                 exact Zb knr
     case n12 =>
      refine Yv J (fun h24 => ?_) (fun h24 => ?_)
      · (try simp only [Xq] at h24)
        refine Ze (Zg (Zp J (Zb (kq (Zr (Yx J J ?_))))))
        refine ⟨Ygg ?_, g⟩
        unfold textB'; simp only [binOps, typeNameB, Qg, anyS, h9, h10, h11, h24, cond_true, cond_false] <;> rfl
      refine Yc (kq (Ze (Zg (Zp J (Zb (kq (Zr (Yx J J ?_))))))))
      refine ⟨Ygg ?_, g⟩
      unfold textB'; simp only [binOps, typeNameB, Qg, anyS, h9, h10, h11, h24, cond_true, cond_false] <;> rfl
   refine Ze (Zg (Xt J J (Zp J (Zb (kq (Yv J (fun h25 => ?_) (fun h25 => ?_)))))))
   · (try simp only [Xq] at h25)
     refine Ze (Ze (Zg (Zx Ym J (Yg Yr J (E.g0.at_ J) (Zb (kq (Yu (Ze (Ze (Zg (Wi J J (Zp J (Zb (kq (?_)))))))))))))))
     refine' Xi [(1, _, _), (2, _, _)] (Za J (Za J (Za J (Zj _)))) J (fun hb26 => ?y26) (kq ?n26)
     case y26 =>
      refine Ze (Zg (Wi J J (Zp J (Zb (kq (?_))))))
      refine' Xi [(1, _, _), (2, _, _)] (Za J (Za J (Za J (Zj _)))) J (fun hb27 => ?y27) knr
      case y27 =>
       refine Ze (Zg (Wi J J (Zp J (Zb (kq (?_))))))
       refine' Xi [(1, _, _), (2, _, _)] (Za J (Za J (Za J (Zj _)))) J (fun hb28 => ?y28) knr
       case y28 =>
        refine Ze (Zg (Wi J J (Zp J (Zb (kq (?_))))))
        refine' Xi [(1, _, _), (2, _, _)] (Za J (Za J (Za J (Zj _)))) J (fun hb29 => ?y29) knr
        case y29 =>
         refine Ze (Zg (Wi J J (Zp J (Zb (kq (?_))))))
         refine' Xi [(1, _, _), (2, _, _)] (Za J (Za J (Za J (Zj _)))) J (fun hb30 => ?y30) knr
         case y30 =>
          refine Ze (Zg (Wi J J (Zp J (Zb (kq (?_))))))
          refine' Xi [(1, _, _), (2, _, _)] (Za J (Za J (Za J (Zj _)))) J (fun hb31 => ?y31) knr
          case y31 =>
           refine Ze (Zg (Wi J J (Zp J (Zb (kq (?_))))))
           refine' Xi [(1, _, _), (2, _, _)] (Za J (Za J (Za J (Zj _)))) J (fun hb32 => ?y32) knr
           case y32 =>
            refine Ze (Zg (Wi J J (Zp J (Zb (kq (?_))))))
            refine' Xi [(1, _, _), (2, _, _)] (Za J (Za J (Za J (Zj _)))) J (fun hb33 => ?y33) knr
            case y33 =>
             refine Ze (Zg (Wi J J (Zp J (Zb (kq (?_))))))
             refine' Xi [(1, _, _), (2, _, _)] (Za J (Za J (Za J (Zj _)))) J (fun hb34 => ?y34) knr
             case y34 =>
              refine Zg (Wi J J (Zp J (Wh [(50, _, _), (1, _, _), (2, _, _)] (Za J (Za J (Za J (Zj _)))) (?_))))
              exact Zb knr
     case n26 =>
      refine Yv J (fun h35 => ?_) (fun h35 => ?_)
      · (try simp only [Xq] at h35)
        refine Ze (Zg (Zp J (Zb (kq (Zr (Yx J J ?_))))))
        refine ⟨Ygg ?_, g⟩
        unfold textB'; simp only [binOps, typeNameB, Qg, anyS, h9, h10, h11, h25, h35, cond_true, cond_false] <;> rfl
      refine Yc (kq (Ze (Zg (Zp J (Zb (kq (Zr (Yx J J ?_))))))))
      refine ⟨Ygg ?_, g⟩
      unfold textB'; simp only [binOps, typeNameB, Qg, anyS, h9, h10, h11, h25, h35, cond_true, cond_false] <;> rfl
   refine Yc (kq (Ze (Zg (Zx Ym J (Yg Yr J (E.g0.at_ J) (Wi J J (Zp J (Zb (kq (Zr (Yx J J ?_)))))))))))
   refine ⟨Ygg ?_, g⟩
   unfold textB'; simp only [binOps, typeNameB, Qg, anyS, h9, h10, h11, h25, cond_true, cond_false] <;> rfl
end Go.Rk
