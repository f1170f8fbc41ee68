/- Trees: the plain tree, how it lies in memory. Conditions: none. -/
import Derived.Test.YtheifopckahdiaaDoorStr
import Derived.Test.YtheifopckahdiaaDoorEngT
namespace Go.Rk
open Go Go.RowKit
set_option linter.unusedVariables false
structure Ty where
  kind : Int
  name : List UInt8
inductive Nd where
  | mk (kind : Int) (text : List UInt8) (num pos : Int) (kids : List Nd) (ty : Ty) (ref up : Int)
namespace Nd
def kind : Nd → Int | .mk k _ _ _ _ _ _ _ => k
def text : Nd → List UInt8 | .mk _ x _ _ _ _ _ _ => x
def num : Nd → Int | .mk _ _ n _ _ _ _ _ => n
def pos : Nd → Int | .mk _ _ _ a _ _ _ _ => a
def kids : Nd → List Nd | .mk _ _ _ _ ks _ _ _ => ks
def ty : Nd → Ty | .mk _ _ _ _ _ y _ _ => y
def ref : Nd → Int | .mk _ _ _ _ _ _ r _ => r
def up : Nd → Int | .mk _ _ _ _ _ _ _ u => u
theorem eta (t : Nd) : Nd.mk t.kind t.text t.num t.pos t.kids t.ty t.ref t.up = t := by cases t; rfl
end Nd
def ty0 : Ty := ⟨0, []⟩
def nd0 : Nd := .mk 0 [] 0 0 [] ty0 0 0
def tyCells (y : Ty) : List Value := [.int .i64 y.kind, Str y.name]
/-- The cells of a node whose children lie behind v. -/
def ndCells (t : Nd) (v : Value) : List Value := [.int .i64 t.kind, Str t.text, .int .i64 t.num, .int .i64 t.pos, v, .int .i64 t.ty.kind, Str t.ty.name, .int .i64 t.ref, .int .i64 t.up]
@[reducible] def tyV (y : Ty) : Value := .agg (tyCells y).toArray
@[reducible] def ndV (t : Nd) (v : Value) : Value := .agg (ndCells t v).toArray
theorem ndCells_length (t : Nd) (v : Value) : (ndCells t v).length = 9 := rfl

mutual
theorem Nd.ind_n {C : Nd → Prop} (h : ∀ t, (∀ k ∈ t.kids, C k) → C t) : ∀ t, C t
  | .mk k x n a ks y r u => h _ (Nd.ind_l h ks)
theorem Nd.ind_l {C : Nd → Prop} (h : ∀ t, (∀ k ∈ t.kids, C k) → C t) : ∀ (l : List Nd), ∀ k ∈ l, C k
  | [] => fun _ hk => by cases hk
  | t :: ts => List.forall_mem_cons.2 ⟨Nd.ind_n h t, Nd.ind_l h ts⟩
end
theorem Nd.ind {C : Nd → Prop} (h : ∀ t, (∀ k ∈ t.kids, C k) → C t) (t : Nd) : C t := Nd.ind_n h t

section
variable {α : Type}
mutual
/-- A function of a tree out of its children's. -/
def para (f : Nd → List α → α) : Nd → α
  | .mk k x n a ks y r u => f (.mk k x n a ks y r u) (paraL f ks)
def paraL (f : Nd → List α → α) : List Nd → List α
  | [] => []
  | t :: ts => para f t :: paraL f ts
end
theorem paraL_eq (f : Nd → List α → α) (l : List Nd) : paraL f l = l.map (para f) := by
  induction l with
  | nil => rfl
  | cons t ts ih => rw [paraL, ih]; rfl
theorem para_eq (f : Nd → List α → α) (t : Nd) : para f t = f t (t.kids.map (para f)) := by
  cases t with
  | mk k x n a ks y r u => rw [para, paraL_eq]; rfl
end

mutual
/-- Children as a row of cells. -/
def KRow (w : World) (D : Nat → Prop) : List Nd → List Value → Prop
  | [], xs => xs = []
  | t :: ts, xs => ∃ v r, xs = ndCells t v ++ r ∧ KNd w D t v ∧ KRow w D ts r
def KNd (w : World) (D : Nat → Prop) : Nd → Value → Prop
  | .mk _ _ _ _ ks _ _ _, v => ∃ p c, v = .slice p ks.length c ∧ ks.length ≤ c ∧ (0 < ks.length → ∃ b o, p = some ⟨b, o, none⟩ ∧ D b ∧ ∃ xs, RowAt w b o xs ∧ KRow w D ks xs)
end
/-- Children behind a slice; their blocks are all of D. -/
def Kd (w : World) (D : Nat → Prop) (ks : List Nd) (v : Value) : Prop :=
  ∃ p c, v = .slice p ks.length c ∧ ks.length ≤ c ∧ (0 < ks.length → ∃ b o, p = some ⟨b, o, none⟩ ∧ D b ∧ ∃ xs, RowAt w b o xs ∧ KRow w D ks xs)
theorem knd_eq (w : World) (D : Nat → Prop) (t : Nd) (v : Value) : KNd w D t v = Kd w D t.kids v := by
  cases t; rw [KNd]; rfl
theorem krow_nil {w : World} {D : Nat → Prop} : KRow w D [] [] := rfl
theorem krow_cons {w : World} {D : Nat → Prop} {t : Nd} {ts : List Nd} {v : Value} {r : List Value} (h : Kd w D t.kids v) (k : KRow w D ts r) : KRow w D (t :: ts) (ndCells t v ++ r) :=
  ⟨v, r, rfl, (knd_eq ..).symm ▸ h, k⟩
theorem krow_length {w : World} {D : Nat → Prop} : ∀ {ks : List Nd} {xs : List Value}, KRow w D ks xs → xs.length = ks.length * 9
  | [], xs, h => by rw [show xs = [] from h]; rfl
  | t :: ts, xs, h => by
    obtain ⟨v, r, rfl, _, h⟩ := h
    rw [List.length_append, ndCells_length, krow_length h, List.length_cons]; omega
theorem krow_append {w : World} {D : Nat → Prop} : ∀ {ks ls : List Nd} {xs ys : List Value}, KRow w D ks xs → KRow w D ls ys → KRow w D (ks ++ ls) (xs ++ ys)
  | [], ls, xs, ys, h, k => by rw [show xs = [] from h]; exact k
  | t :: ts, ls, xs, ys, h, k => by
    obtain ⟨v, r, rfl, h1, h⟩ := h
    exact ⟨v, r ++ ys, by rw [List.append_assoc], h1, krow_append h k⟩
theorem krow_one {w : World} {D : Nat → Prop} {t : Nd} {v : Value} (h : Kd w D t.kids v) : KRow w D [t] (ndCells t v) := by
  have := krow_cons h (krow_nil (w := w) (D := D)); rwa [List.append_nil] at this
theorem krow_get {w : World} {D : Nat → Prop} : ∀ {ks : List Nd} {xs : List Value} (_ : KRow w D ks xs) {i : Nat} (hi : i < ks.length), ∃ v, (xs.drop (i * 9)).take 9 = ndCells ks[i] v ∧ Kd w D ks[i].kids v
  | [], xs, h, i, hi => by cases hi
  | t :: ts, xs, h, i, hi => by
    obtain ⟨v, r, rfl, h1, h⟩ := h
    cases i with
    | zero => exact ⟨v, by simp [ndCells], knd_eq w D t v ▸ h1⟩
    | succ i =>
      have hi' : i < ts.length := by simpa using hi
      obtain ⟨v', e, k⟩ := krow_get h hi'
      refine ⟨v', ?_, k⟩
      have e9 : (ndCells t v ++ r).drop ((i + 1) * 9) = r.drop (i * 9) := by
        rw [show (i + 1) * 9 = 9 + i * 9 by omega, ← List.drop_drop]; rfl
      rw [e9]; exact e
mutual
theorem krow_frame {w w' : World} {D D' : Nat → Prop} (hD : ∀ b, D b → b < w.heap.size → D' b) (hf : ∀ b, D b → b < w.heap.size → w'.heap[b]? = w.heap[b]?) : ∀ (ks : List Nd) (xs : List Value), KRow w D ks xs → KRow w' D' ks xs
  | [], xs, h => h
  | t :: ts, xs, h => by
    obtain ⟨v, r, rfl, h1, h⟩ := h
    exact ⟨v, r, rfl, knd_frame hD hf t v h1, krow_frame hD hf ts r h⟩
theorem knd_frame {w w' : World} {D D' : Nat → Prop} (hD : ∀ b, D b → b < w.heap.size → D' b) (hf : ∀ b, D b → b < w.heap.size → w'.heap[b]? = w.heap[b]?) : ∀ (t : Nd) (v : Value), KNd w D t v → KNd w' D' t v
  | .mk k x n a ks y r u, v, h => by
    obtain ⟨p, c, rfl, hc, h⟩ := h
    refine ⟨p, c, rfl, hc, fun h0 => ?_⟩
    obtain ⟨b, o, rfl, hb, xs, hR, hX⟩ := h h0
    have hl : xs.length = ks.length * 9 := krow_length hX
    have h0' : ∃ u, xs[0]? = some u := ⟨xs[0]'(by omega), by simp⟩
    obtain ⟨u0, hu0⟩ := h0'
    have hlt : b < w.heap.size := World.block_lt_of_cell? w _ (hR 0 u0 hu0)
    have hb' := hf b hb hlt
    refine ⟨b, o, rfl, hD b hb hlt, xs, fun j u hj => ?_, krow_frame hD hf ks xs hX⟩
    have := hR j u hj
    unfold World.cell? at this ⊢
    simp only [hb']
    exact this
end
theorem kd_frame {w w' : World} {D D' : Nat → Prop} {ks : List Nd} {v : Value} (h : Kd w D ks v) (hD : ∀ b, D b → b < w.heap.size → D' b) (hf : ∀ b, D b → b < w.heap.size → w'.heap[b]? = w.heap[b]?) : Kd w' D' ks v := by
  have := knd_frame hD hf (.mk 0 [] 0 0 ks ty0 0 0) v ((knd_eq w D _ v).symm ▸ h)
  rw [knd_eq] at this; exact this
theorem Kd.mono {w : World} {D D' : Nat → Prop} {ks : List Nd} {v : Value} (h : Kd w D ks v) (hD : ∀ b, D b → b < w.heap.size → D' b) : Kd w D' ks v := kd_frame h hD fun _ _ _ => rfl
theorem KRow.mono {w : World} {D D' : Nat → Prop} {ks : List Nd} {xs : List Value} (h : KRow w D ks xs) (hD : ∀ b, D b → b < w.heap.size → D' b) : KRow w D' ks xs := krow_frame hD (fun _ _ _ => rfl) _ _ h
theorem Kd.grow {w w' : World} {D : Nat → Prop} {ks : List Nd} {v : Value} (h : Kd w D ks v) (g : G w w') : Kd w' D ks v := kd_frame h (fun _ h _ => h) fun _ _ hb => g.block hb
theorem KRow.grow {w w' : World} {D : Nat → Prop} {ks : List Nd} {xs : List Value} (h : KRow w D ks xs) (g : G w w') : KRow w' D ks xs := krow_frame (fun _ h _ => h) (fun _ _ hb => g.block hb) _ _ h
/-- Memory outside D may be written. -/
theorem Kd.keep {w w' : World} {D : Nat → Prop} {ks : List Nd} {v : Value} {row : Option Nat} (h : Kd w D ks v) (hg : w.grownBy w' row) (hne : ∀ b, D b → b < w.heap.size → some b ≠ row) : Kd w' D ks v := kd_frame h (fun _ h _ => h) fun b hb hlt => hg.block b hlt (hne b hb hlt)
theorem KRow.keep {w w' : World} {D : Nat → Prop} {ks : List Nd} {xs : List Value} {row : Option Nat} (h : KRow w D ks xs) (hg : w.grownBy w' row) (hne : ∀ b, D b → b < w.heap.size → some b ≠ row) : KRow w' D ks xs := krow_frame (fun _ h _ => h) (fun b hb hlt => hg.block b hlt (hne b hb hlt)) _ _ h
theorem Kd.lt {w : World} {D : Nat → Prop} {ks : List Nd} {v : Value} (h : Kd w D ks v) : Kd w (fun b => D b ∧ b < w.heap.size) ks v := kd_frame h (fun _ h hl => ⟨h, hl⟩) fun _ _ _ => rfl
theorem KRow.lt {w : World} {D : Nat → Prop} {ks : List Nd} {xs : List Value} (h : KRow w D ks xs) : KRow w (fun b => D b ∧ b < w.heap.size) ks xs := krow_frame (fun _ h hl => ⟨h, hl⟩) (fun _ _ _ => rfl) _ _ h
/-- Its blocks are as old as the world it was met in. -/
theorem Kd.old {w w' : World} {D : Nat → Prop} {ks : List Nd} {v : Value} (h : Kd w D ks v) (g : G w w') : Kd w' (fun b => D b ∧ b < w.heap.size) ks v := h.lt.grow g
theorem kd_nil (w : World) (D : Nat → Prop) : Kd w D [] (.slice none 0 0) := ⟨none, 0, rfl, Nat.le_refl _, fun h => absurd h (Nat.lt_irrefl 0)⟩
/-- A row of one's own as children. -/
theorem kd_own {w : World} {base : Nat} {e : TypeId} {v : Value} {m : Nat} {xs : List Value} {D : Nat → Prop} {ks : List Nd} (h : w.ownsRow base e 9 v m xs) (hm : m = ks.length) (k : KRow w D ks xs) (hD : ∀ b, v.ownBlock = some b → D b) : Kd w D ks v := by
  subst hm
  obtain ⟨a, c, rfl, hc⟩ := own_sl h
  refine ⟨a, c, rfl, hc, fun h0 => ?_⟩
  obtain ⟨b, c', hv, _, hR, _⟩ := own_pos h h0
  injection hv with hv _ _
  subst hv
  exact ⟨b, 0, rfl, hD b rfl, xs, hR, k⟩
/-- A piece of memory as children. -/
theorem kd_row {w : World} {D : Nat → Prop} {ks : List Nd} {b o c : Nat} {xs : List Value} (hb : D b) (hR : RowAt w b o xs) (hX : KRow w D ks xs) (hc : ks.length ≤ c) : Kd w D ks (.slice (some ⟨b, o, none⟩) ks.length c) := ⟨_, c, rfl, hc, fun _ => ⟨b, o, rfl, hb, xs, hR, hX⟩⟩
theorem kd_at {w : World} {D : Nat → Prop} {ks : List Nd} {b o : Nat} {xs : List Value} (hR : RowAt w b o xs) (hX : KRow w D ks xs) {i : Nat} (hi : i < ks.length) : ∃ p c, RowAt w b (o + i * 9) (ndCells ks[i] (.slice p ks[i].kids.length c)) ∧ Kd w D ks[i].kids (.slice p ks[i].kids.length c) := by
  obtain ⟨v, e, k⟩ := krow_get hX hi
  have := hR.part (i * 9) 9
  rw [e] at this
  obtain ⟨p, c, rfl, k1⟩ := k
  exact ⟨p, c, this, p, c, rfl, k1⟩
theorem ndCells_one (t : Nd) (v : Value) (h : v.oneCell' = true) : ∀ u ∈ ndCells t v, u.oneCell' = true := by
  intro u hu; simp [ndCells] at hu; rcases hu with rfl | rfl | rfl | rfl | rfl | rfl | rfl | rfl | rfl <;> first | rfl | exact h

/-! counting -/
def count (t : Nd) : Nat := para (fun _ l => 1 + l.sum) t
theorem count_eq (t : Nd) : count t = 1 + (t.kids.map count).sum := para_eq _ t
theorem sum_take_le (l : List Nat) (i : Nat) : (l.take i).sum ≤ l.sum := by
  conv => rhs; rw [← List.take_append_drop i l, List.sum_append]
  omega
theorem count_kid {t : Nd} {i : Nat} (h : i < t.kids.length) : ((t.kids.take i).map count).sum + count t.kids[i] + 1 ≤ count t := by
  rw [count_eq t]
  have := sum_take_le (t.kids.map count) (i + 1)
  rw [← List.map_take, List.take_add_one, List.getElem?_eq_getElem h] at this
  simp only [Option.toList_some, List.map_append, List.map_cons, List.map_nil, List.sum_append, List.sum_cons, List.sum_nil] at this
  omega
theorem count_pos (t : Nd) : 1 ≤ count t := by rw [count_eq]; omega
theorem length_le_sum : ∀ (l : List Nd), l.length ≤ (l.map count).sum
  | [] => Nat.le_refl _
  | t :: ts => by have := length_le_sum ts; have := count_pos t; simp; omega
theorem kids_le (t : Nd) : t.kids.length + 1 ≤ count t := by
  have := length_le_sum t.kids; rw [count_eq]; omega
theorem count_mem {t k : Nd} (h : k ∈ t.kids) : count k + 1 ≤ count t := by
  obtain ⟨i, hi, rfl⟩ := List.getElem_of_mem h
  have := count_kid hi; omega
theorem take_succ_map {α β : Type} (f : α → β) (l : List α) (i : Nat) (h : i < l.length) : (l.take (i + 1)).map f = (l.take i).map f ++ [f l[i]] := by
  rw [List.take_add_one, List.getElem?_eq_getElem h, List.map_append]; rfl
end Go.Rk
