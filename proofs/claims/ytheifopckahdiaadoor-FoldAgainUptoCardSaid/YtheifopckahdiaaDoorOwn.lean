/- Rows of nodes of one's own, appended to; loops that write. Conditions: none. -/
import Derived.Test.YtheifopckahdiaaDoorRowF
namespace Go.Rk
open Go Go.RowKit
set_option linter.unusedVariables false
/-! loops that carry facts on the world -/
def BlkE (b : Nat) (e : TypeId) (l : List Value) (w : World) : Prop := Blk w b e l
def andE (p q : World → Prop) (w : World) : Prop := p w ∧ q w
def nilE (w : World) : Prop := True
theorem blkE {w : World} {b : Nat} {e : TypeId} {l : List Value} (h : Blk w b e l) : BlkE b e l w := h
theorem andE_mk {p q : World → Prop} {w : World} (h : p w) (k : q w) : andE p q w := ⟨h, k⟩
theorem nilE_mk (w : World) : nilE w := trivial
section
variable {P : Program} {n : Nat} {N T : Act → World → Prop} {X : List (Nat × (Act → World → Prop))} {σ : List Ent} {w : World}
theorem sc_loop3 {c : Code} {α : Type} (I : α → World → Prop) (E : World → Prop) (σc : List Ent) (σf : α → List Ent) (μ : α → Nat) (x0 : α) (h0 : I x0 w) (hE : E w) (hs : Sub (σf x0 ++ σc) σ)
    (round : ∀ x w, I x w → E w → SC P n c (fun a' w' => ∃ y, Kn n (σf y ++ σc) a' ∧ I y w' ∧ E w' ∧ μ y < μ x) X T (σf x ++ σc) w) : SC P n (.loop c) N X T σ w := by
  refine sc_loop (fun x w => I x w ∧ E w) (fun x => σf x ++ σc) μ x0 ⟨h0, hE⟩ hs fun x w ⟨h1, h2⟩ => ?_
  refine fun a ha => Code.wp_mono (fun e a w q => ?_) (round x w h1 h2 a ha)
  cases e with
  | normal => obtain ⟨y, q1, q2, q3, q4⟩ := q; exact ⟨y, q1, ⟨q2, q3⟩, q4⟩
  | _ => exact q
end
theorem krow_ones {w : World} {D : Nat → Prop} : ∀ {ls : List Nd} {news : List Value}, KRow w D ls news → onesB news = true
  | [], news, h => by rw [show news = [] from h]; rfl
  | t :: ls, news, h => by
    obtain ⟨v, r, rfl, hkn, hr⟩ := h
    rw [knd_eq] at hkn
    obtain ⟨p, c, rfl, _⟩ := hkn
    have := krow_ones hr
    unfold onesB at this ⊢
    rw [List.all_append, this, Bool.and_true]; rfl
/-! own rows -/
theorem own_blk {w : World} {base b : Nat} {e : TypeId} {z m : Nat} {l : List Value} (h : Blk w b e l) (hb : base ≤ b) (hl : l.length = m * z) (hm : m ≤ 1000000) : w.ownsRow base e z (.slice (some ⟨b, 0, none⟩) m m) m l :=
  ⟨hl, .inr ⟨b, m, l.toArray, rfl, hb, h, Nat.le_refl _, by simp only [maxLen]; omega, by simpa using hl, by simp [← hl]⟩⟩
/-- New blocks but for some. -/
def Dx (base : Nat) (X : List Nat) (b : Nat) : Prop := base ≤ b ∧ b ∉ X
/-- A list of nodes in a row of one's own: the nodes' own blocks are all of D, the row's too. -/
def OwnK (e : TypeId) (D : Nat → Prop) (base : Nat) (w : World) (ks : List Nd) (s : Value) : Prop :=
  ∃ xs, w.ownsRow base e 9 s ks.length xs ∧ KRow w (fun b => D b ∧ some b ≠ s.ownBlock) ks xs ∧ ∀ b, s.ownBlock = some b → D b
section
variable {e : TypeId} {D : Nat → Prop} {base : Nat} {w w' : World} {ks : List Nd} {s : Value}
theorem ownK_nil (e : TypeId) (D : Nat → Prop) (base : Nat) (w : World) : OwnK e D base w [] (.slice none 0 0) := ⟨[], own_none _ _ _ _, krow_nil, fun b h => by cases h⟩
theorem OwnK.slice (h : OwnK e D base w ks s) : ∃ a c, s = .slice a ks.length c := by
  obtain ⟨xs, h1, _⟩ := h
  obtain ⟨a, c, h2, _⟩ := own_sl h1
  exact ⟨a, c, h2⟩
theorem OwnK.ge (h : OwnK e D base w ks s) : ∀ k, s.ownBlock = some k → base ≤ k := by
  obtain ⟨xs, h1, _⟩ := h
  exact fun k hk => (h1.lt k hk).1
theorem OwnK.lt (h : OwnK e D base w ks s) : ∀ k, s.ownBlock = some k → k < w.heap.size := by
  obtain ⟨xs, h1, _⟩ := h
  exact fun k hk => (h1.lt k hk).2
theorem OwnK.ne (h : OwnK e D base w ks s) {b : Nat} (hb : ¬ D b) : some b ≠ s.ownBlock := by
  obtain ⟨xs, _, _, h3⟩ := h
  exact fun he => hb (h3 b he.symm)
theorem OwnK.grow (h : OwnK e D base w ks s) (g : G w w') : OwnK e D base w' ks s := by
  obtain ⟨xs, h1, h2, h3⟩ := h
  exact ⟨xs, own_grow h1 g, h2.grow g, h3⟩
theorem OwnK.keep (h : OwnK e D base w ks s) {b : Nat} (hg : w.grownBy w' (some b)) (hb : ¬ D b) : OwnK e D base w' ks s := by
  obtain ⟨xs, h1, h2, h3⟩ := h
  refine ⟨xs, own_keep h1 hg (.inr fun he => hb (h3 b he)), h2.keep hg fun k hk _ he => ?_, h3⟩
  injection he with he
  exact hb (he ▸ hk.1)
/-- As children. -/
theorem OwnK.kd (h : OwnK e D base w ks s) {D' : Nat → Prop} (hD : ∀ b, D b → D' b) : Kd w D' ks s := by
  obtain ⟨xs, h1, h2, h3⟩ := h
  exact kd_own h1 rfl (h2.mono fun b hb _ => hD b hb.1) fun b hb => hD b (h3 b hb)
theorem ownK_one {b : Nat} {t : Nd} {v : Value} (h : Blk w b e (ndCells t v)) (hb : base ≤ b) (hk : Kd w (fun k => D k ∧ k ≠ b) t.kids v) (hD : D b) : OwnK e D base w [t] (.slice (some ⟨b, 0, none⟩) 1 1) := by
  refine ⟨_, own_blk h hb rfl (by decide), krow_one (hk.mono fun k hk _ => ⟨hk.1, fun he => ?_⟩), fun k hk => ?_⟩
  · injection he with he; exact hk.2 he
  · injection hk with hk; exact hk ▸ hD
theorem OwnK.append {ls : List Nd} {news : List Value} {a' : Option Addr} {c' : Nat} {xs : List Value} (h : OwnK e D base w ks s) (hx : w.ownsRow base e 9 s ks.length xs) (hX : KRow w (fun b => D b ∧ some b ≠ s.ownBlock) ks xs)
    (hn : KRow w (fun b => D b ∧ some b ≠ s.ownBlock) ls news) (hD : D w.heap.size) (ho : w'.ownsRow base e 9 (.slice a' (ks.length + ls.length) c') (ks.length + ls.length) (xs ++ news)) (hg : w.grownBy w' s.ownBlock)
    (hat : (Value.slice a' (ks.length + ls.length) c').ownBlock = s.ownBlock ∨ (Value.slice a' (ks.length + ls.length) c').ownBlock = some w.heap.size) : OwnK e D base w' (ks ++ ls) (.slice a' (ks ++ ls).length c') := by
  have hlen : (ks ++ ls).length = ks.length + ls.length := by simp
  refine ⟨xs ++ news, by rw [hlen]; exact ho, ?_, ?_⟩
  · have h1 := krow_append hX hn
    rw [hlen]
    refine krow_frame (fun b hb hlt => ⟨hb.1, ?_⟩) (fun b hb hlt => hg.block b hlt hb.2) _ _ h1
    rcases hat with he | he <;> rw [he]
    · exact hb.2
    · intro e; injection e with e; omega
  · rw [hlen]
    intro b hb
    rcases hat with he | he <;> rw [he] at hb
    · obtain ⟨_, _, _, h3⟩ := h; exact h3 b hb
    · injection hb with hb; exact hb ▸ hD
end
section
variable {P : Program} {Z : List PanicEntry → Act → World → Prop} {ops : List Oper} {cl : List Nat} {lv : List Bool} {W0 : World} {n : Nat} {K : Act → World → Prop} {k : Nat} {rest : List Oper} {σ : List Ent} {w : World} {d : Nat} {ty : TypeId} {pos : String} {after : Array Edge}
/-- append of nodes to a row of one's own. -/
theorem sr_appendK {t e base q q' : Nat} {x y : Operand} {s zv : Value} {news : List Value} {b' o' : Nat} {D : Nat → Prop} {ks ls : List Nd} (hb : (Nat.beq (clOf cl k) 2 && Nat.blt d n) = true) (ht : tyElem P t = some (e, 9, 104)) (hzv : zeroOf P e = some zv)
    (hzs : zv.cells.size = 9) (hx : Ev n σ True x s) (hO : OwnK e D base w ks s) (hy : Ev n σ True y (.slice (some ⟨b', o', none⟩) q q')) (hq : ls.length = q) (hn : RowAt w b' o' news) (hK : KRow w (fun b => D b ∧ some b ≠ s.ownBlock) ls news)
    (hlen : ks.length + ls.length ≤ 10000000) (hbase : base ≤ w.heap.size) (hD : D w.heap.size)
    (h : ∀ a' c' w', OwnK e D base w' (ks ++ ls) (.slice a' (ks ++ ls).length c') → w.grownBy w' s.ownBlock → SR P Z ops cl lv W0 n K (k + 1) rest ((d, True, .slice a' (ks ++ ls).length c') :: σ) w') :
    SR P Z ops cl lv W0 n K k (⟨some d, .call { callee := .builtin .append, args := #[x, y], argTypes := #[t, t] }, ty, pos, after, none⟩ :: rest) σ w := by
  obtain ⟨xs, h1, h2, h3⟩ := id hO
  subst hq
  have ones := krow_ones hK
  refine sr_append hb ht hzv hzs (by decide) hx h1 hy (krow_length hK) hn ones (by simp only [maxLen]; omega) (by omega) hbase fun a' c' w' ho hg hat => ?_
  have := h a' c' w' (hO.append h1 h2 hK hD ho hg hat) hg
  rwa [List.length_append] at this
end
end Go.Rk
