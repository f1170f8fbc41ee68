/- The engine's rules for rows of bytes that are written into. Conditions: none. -/
import Derived.Test.YtpbnkinfkkokfaaDoorStr
import Derived.Laws.MakeOwn
import Derived.Laws.BytesString
import Derived.Lib.ConvBytes
import Derived.Lib.AtoiErrMem
import Derived.Laws.OwnMore
namespace Go.Rk
open Go Go.RowKit
set_option linter.unusedVariables false
/-- A block whose first cells are bytes, and may be written. -/
def Byt (w : World) (b : Nat) (e : TypeId) (l : List UInt8) : Prop := ∃ cs lo hi, w.heap[b]? = some (.cells cs e (lo, hi)) ∧ (∀ (j : Nat) (v : Value), (Lib.byteCells l)[j]? = some v → cs[j]? = some v) ∧ (hi = 0 ∨ l.length ≤ lo)
theorem Byt.row {w : World} {b : Nat} {e : TypeId} {l : List UInt8} (h : Byt w b e l) : RowAt w b 0 (Lib.byteCells l) := by
  obtain ⟨cs, lo, hi, hb, hc, _⟩ := h
  intro j v hj
  rw [Nat.zero_add]
  simp [World.cell?, hb, hc j v hj]
theorem Byt.lt {w : World} {b : Nat} {e : TypeId} {l : List UInt8} (h : Byt w b e l) : b < w.heap.size := by
  obtain ⟨cs, lo, hi, hb, _⟩ := h
  exact (Array.getElem?_eq_some_iff.mp hb).1
theorem Byt.keep {w w1 : World} {b : Nat} {e : TypeId} {l : List UInt8} {row : Option Nat} (h : Byt w b e l) (hg : w.grownBy w1 row) (hne : some b ≠ row) : Byt w1 b e l := by
  have hlt := h.lt
  obtain ⟨cs, lo, hi, hb, hc, hf⟩ := h
  exact ⟨cs, lo, hi, by obtain ⟨_, _, _, _, ho⟩ := hg; rw [ho b hlt hne]; exact hb, hc, hf⟩
theorem Byt.grow {w w1 : World} {b : Nat} {e : TypeId} {l : List UInt8} (h : Byt w b e l) (hg : G w w1) : Byt w1 b e l := h.keep (hg.only none) (by intro e; cases e)
theorem byt_blk {w : World} {b : Nat} {e : TypeId} {l : List UInt8} (h : Blk w b e (Lib.byteCells l)) : Byt w b e l := ⟨_, 0, 0, h, fun j v hj => by simpa using hj, .inl rfl⟩
theorem byt_bytes (w : World) (e : TypeId) (l : List UInt8) : Byt (Lib.bytesWorld w e ⟨l.toArray⟩) w.heap.size e l := by
  refine ⟨_, _, _, Lib.bytesWorld_at_new w e ⟨l.toArray⟩, fun j v hj => ?_, .inr ?_⟩
  · have hl : j < l.length := by have := (List.getElem?_eq_some_iff.mp hj).1; rwa [Lib.byteCells_length] at this
    have hj2 : (l.map fun b => Value.int .u8 b.toNat)[j]? = some v := hj
    unfold Lib.bytesCells
    rw [Array.getElem?_append_left (by simp; exact hl)]
    simpa using hj2
  · simp [Lib.bytesCells]
theorem byt_set {P : Program} {w : World} {b o : Nat} {e : TypeId} {l : List UInt8} {c : UInt8} (h : Byt w b e l) (ho : o < l.length) :
    (store ⟨b, o, none⟩ (.int .u8 c.toNat)).run P w = .ok () (w.setCell ⟨b, o, none⟩ (.int .u8 c.toNat)) ∧ Byt (w.setCell ⟨b, o, none⟩ (.int .u8 c.toNat)) b e (l.set o c) ∧ w.grownBy (w.setCell ⟨b, o, none⟩ (.int .u8 c.toNat)) (some b) := by
  obtain ⟨cs, lo, hi, hb, hc, hf⟩ := h
  have hlo : (Lib.byteCells l)[o]? = some (.int .u8 (l[o].toNat)) := by simp [Lib.byteCells, List.getElem?_eq_getElem ho]
  have hco := hc o _ hlo
  have hcell : w.cell? ⟨b, o, none⟩ = some (.int .u8 (l[o].toNat)) := by simp [World.cell?, hb, hco]
  have hfz : w.frozen? ⟨b, o, none⟩ = false := by
    simp only [World.frozen?, hb]
    rcases hf with hf | hf
    · rw [hf]; simp
    · rw [Bool.and_eq_false_iff]; left; simp; omega
  refine ⟨?_, ⟨cs.setIfInBounds o (.int .u8 c.toNat), lo, hi, ?_, ?_, by simpa using hf⟩, ⟨rfl, rfl, rfl, by simp, fun k hk hne => Below.heap_setCell _ _ _ _ (fun he => hne (by rw [he]))⟩⟩
  · rw [run_store P w _ _ _ rfl, hcell]; simp [hfz]
  · simp [World.setCell, Array.getElem?_modify, hb]
  · intro j v hj
    have hlt : o < cs.size := (Array.getElem?_eq_some_iff.mp hco).1
    rw [Lib.byteCells, List.map_set] at hj
    rw [Array.getElem?_setIfInBounds]
    rw [List.getElem?_set] at hj
    split at hj
    · rename_i e1
      subst e1
      rw [if_pos rfl, if_pos hlt]
      split at hj
      · exact hj
      · cases hj
    · rename_i e1
      rw [if_neg e1]
      exact hc j v hj
section
variable {P : Program} {n : Nat} {σ : List Ent} {c : Prop} {wb : World} {ty : TypeId}
theorem fold_bytes : ∀ (l : List UInt8) (acc : ByteArray), (l.map fun (b : UInt8) => ((b.toNat : Nat) : Int)).foldl (fun (r : ByteArray) (n : Int) => r.push (UInt8.ofNat n.toNat)) acc = ⟨acc.data ++ l.toArray⟩
  | [], acc => by simp
  | a :: l, acc => by
    rw [List.map_cons, List.foldl_cons, fold_bytes l]
    simp [ByteArray.push]
theorem rd_tostr {s t e z by_ : Nat} {x : Operand} {b o m q : Nat} {l : List UInt8} (hs : tyElem P s = some (e, z, by_)) (he : tyInt P e = some .u8) (ht : tyStr P t = true) (h : Ev n σ c x (.slice (some ⟨b, o, none⟩) m q)) (hl : l.length = m) (hr : c → RowAt wb b o (Lib.byteCells l)) :
    Rd P n σ c wb (.convert s t x) ty (Str l) := fun d pos after gd a ha hc w1 hg => by
  obtain ⟨hu, _⟩ := underlying_sl hs
  have hrow := (hr hc).grow hg
  have hlc : (loadCells ⟨b, o, none⟩ m).run P w1 = .ok ((l.map fun (b : UInt8) => ((b.toNat : Nat) : Int)).map (Value.int .u8)).toArray w1 := by
    have h1 := run_loadCells_list (P := P) (w := w1) ⟨b, o, none⟩ (Lib.byteCells l) (fun j v hj => by rw [Addr.add_lit]; exact hrow j v hj)
    rw [Lib.byteCells_length, hl] at h1
    rw [h1]
    congr 2
    simp [Lib.byteCells]
  have h2 := run_bytesToString (P := P) w1 ⟨b, o, none⟩ m q _ hlc
  rw [fold_bytes] at h2
  simp [execOp, h a ha hc, convert, run_underlying hu, run_underlying (underlying_str ht), run_underlying (underlying_int he), h2]
theorem rd_tostr0 {s t e z by_ : Nat} {x : Operand} {q : Nat} (hs : tyElem P s = some (e, z, by_)) (he : tyInt P e = some .u8) (ht : tyStr P t = true) (h : Ev n σ c x (.slice none 0 q)) : Rd P n σ c wb (.convert s t x) ty (Str []) := fun d pos after gd a ha hc w1 hg => by
  obtain ⟨hu, _⟩ := underlying_sl hs
  simp [execOp, h a ha hc, convert, run_underlying hu, run_underlying (underlying_str ht), run_underlying (underlying_int he), Conv.bytesToString]
  rfl
end
section
variable {P : Program} {ops : List Oper} {cl : List Nat} {lv : List Bool} {W0 : World} {n : Nat} {K : Act → World → Prop} {k : Nat} {rest : List Oper} {σ : List Ent} {w : World} {d : Nat} {ty : TypeId} {pos : String} {after : Array Edge}
theorem sr_storeb {t : TypeId} {x y : Operand} {b o : Nat} {e : TypeId} {c : UInt8} {l : List UInt8} (hb : Nat.beq (clOf cl k) 2 = true) (hs : tySize P t = some 1) (hx : Ev n σ True x (.pointer (some ⟨b, o, none⟩))) (hy : Ev n σ True y (.int .u8 c.toNat)) (hB : Byt w b e l) (ho : o < l.length)
    (h : ∀ w1, w.grownBy w1 (some b) → w1.heap.size = w.heap.size → Byt w1 b e (l.set o c) → SR P ops cl lv W0 n K (k + 1) rest σ w1) :
    SR P ops cl lv W0 n K k (⟨none, .store t x y, ty, pos, after, none⟩ :: rest) σ w := by
  obtain ⟨r1, r2, r3⟩ := byt_set (P := P) (c := c) hB ho
  refine sr_skip hb (w' := w.setCell ⟨b, o, none⟩ (.int .u8 c.toNat)) (fun d pos after g a ha _ => ?_) (h _ r3 (by simp) r2)
  unfold tySize at hs
  obtain ⟨i, hi, hi2⟩ := Option.map_eq_some_iff.1 hs
  have hsz : (sizeOf t).run P w = .ok 1 w := by simp [sizeOf, typeInfo, hi, hi2]
  simp [execOp, hx a ha trivial, hy a ha trivial, Instr.storeAt, Instr.sureAddr, storeVar, hsz, Value.cells, storeCells, Addr.add_lit, r1]
theorem sr_makeb {t e m : Nat} {x y : Operand} {kk : IntKind} (hb : (!Nat.beq (clOf cl k) 0 && !Nat.beq (clOf cl k) 3 && Nat.blt d n) = true) (ht : tyElem P t = some (e, 1, 1)) (hz : zeroOf P e = some (.int .u8 0)) (hx : Ev n σ True x (.int kk m)) (hy : Ev n σ True y (.int kk m)) (hm : m ≤ 16777216)
    (h : ∀ b w1, b = w.heap.size → Byt w1 b e (List.replicate m 0) → G w w1 → SR P ops cl lv W0 n K (k + 1) rest ((d, True, .slice (some ⟨b, 0, none⟩) m m) :: σ) w1) :
    SR P ops cl lv W0 n K k (⟨some d, .makeSlice t x y, ty, pos, after, none⟩ :: rest) σ w := by
  obtain ⟨hu, i, hi, hsz, hbyi⟩ := underlying_sl ht
  obtain ⟨i', hi', hz'⟩ := zero_info hz
  obtain rfl : i = i' := Option.some.inj (hi.symm.trans hi')
  have hr := run_makeSlice (P := P) w t e i (.int .u8 0) hu hi hz' kk kk m m (by omega) (Int.le_refl _) (by rw [hsz]; omega) (by rw [hbyi]; omega) (by omega)
  simp only [Int.toNat_natCast, hsz, Nat.mul_one] at hr
  have hcells : madeCells (Value.int .u8 0).cells m = (Lib.byteCells (List.replicate m 0)).toArray := by
    apply Array.ext
    · simp [madeCells, Lib.byteCells]
    · intro j h1 h2
      simp [madeCells, Lib.byteCells, Value.cells, Nat.mod_one]
  rw [hcells] at hr
  have hN := new_alloc w e (Lib.byteCells (List.replicate m 0))
  refine sr_val hb (w' := w.alloc (.cells (Lib.byteCells (List.replicate m 0)).toArray e)) (fun d pos after g a ha _ => ?_) (fun _ => hN.g) (h _ _ rfl (byt_blk hN.blk) hN.g)
  simp [execOp, hx a ha trivial, hy a ha trivial, hr]
theorem sr_tobytes {s t e z by_ : Nat} {x : Operand} {l : List UInt8} (hb : (!Nat.beq (clOf cl k) 0 && !Nat.beq (clOf cl k) 3 && Nat.blt d n) = true) (hs : tyStr P s = true) (ht : tyElem P t = some (e, z, by_)) (he : tyInt P e = some .u8) (hx : Ev n σ True x (Str l))
    (h : ∀ b w1 q, b = w.heap.size → Byt w1 b e l → G w w1 → SR P ops cl lv W0 n K (k + 1) rest ((d, True, .slice (some ⟨b, 0, none⟩) l.length q) :: σ) w1) :
    SR P ops cl lv W0 n K k (⟨some d, .convert s t x, ty, pos, after, none⟩ :: rest) σ w := by
  obtain ⟨hu, _⟩ := underlying_sl ht
  have hr := Lib.run_convert_string_bytes (P := P) w s t e ⟨l.toArray⟩ (underlying_str hs) hu (underlying_int he)
  have hsl : (⟨l.toArray⟩ : ByteArray).size = l.length := by simp [ByteArray.size]
  rw [hsl] at hr
  refine sr_val hb (w' := Lib.bytesWorld w e ⟨l.toArray⟩) (fun d pos after g a ha _ => ?_) (fun _ => Lib.bytesWorld_below w e _) (h _ _ (grownCap w l.length 0 e) rfl (byt_bytes w e l) (Lib.bytesWorld_below w e _))
  simp [execOp, hx a ha trivial, hr]
theorem sr_build0 {t e z by_ : Nat} (hb : (!Nat.beq (clOf cl k) 0 && !Nat.beq (clOf cl k) 3 && Nat.blt d n) = true) (ht : tyElem P t = some (e, z, by_))
    (h : ∀ b w1, b = w.heap.size → (∀ base, base ≤ w.heap.size → w1.ownsRow base e z (.slice (some ⟨b, 0, none⟩) 0 0) 0 []) → G w w1 → SR P ops cl lv W0 n K (k + 1) rest ((d, True, .slice (some ⟨b, 0, none⟩) 0 0) :: σ) w1) :
    SR P ops cl lv W0 n K k (⟨some d, .buildSlice t 0 #[], ty, pos, after, none⟩ :: rest) σ w := by
  obtain ⟨hu, i, hi, hsz, hbyi⟩ := underlying_sl ht
  have hN := new_alloc w e []
  refine sr_val hb (w' := w.alloc (.cells #[] e)) (fun d pos after g a ha _ => ?_) (fun _ => hN.g) (h _ _ rfl (fun base hbase => World.ownsRow_lit w #[] 0 hbase (Nat.zero_le _) (by simp)) hN.g)
  have hr0 : Array.range 0 = #[] := by decide
  simp [execOp, Instr.buildSlice, run_underlying hu, run_size hi, Instr.fill, newRow, hr0]
theorem sr_append0 {t e z by_ m q cp b : Nat} {x y : Operand} {o : Option Addr} (hb : (Nat.beq (clOf cl k) 2 && Nat.blt d n) = true) (ht : tyElem P t = some (e, z, by_)) (hx : Ev n σ True x (.slice (some ⟨b, 0, none⟩) m cp)) (hm : m ≤ cp) (hy : Ev n σ True y (.slice o 0 q))
    (h : SR P ops cl lv W0 n K (k + 1) rest ((d, True, .slice (some ⟨b, 0, none⟩) m cp) :: σ) w) :
    SR P ops cl lv W0 n K k (⟨some d, .call { callee := .builtin .append, args := #[x, y], argTypes := #[t, t] }, ty, pos, after, none⟩ :: rest) σ w := by
  obtain ⟨hu, i, hi, hsz, hbyi⟩ := underlying_sl ht
  simp only [Bool.and_eq_true] at hb
  have hc := Nat.eq_of_beq_eq_true hb.1
  refine sr_val (w' := w) (by rw [hc, hb.2]; rfl) (fun d pos after g a ha _ => ?_) (fun hh => by omega) h
  have hr : (Builtin.append_ #[t, t] ty #[.slice (some ⟨b, 0, none⟩) m cp, .slice o 0 q]).run P w = .ok (.slice (some ⟨b, 0, none⟩) m cp) w := by
    cases o <;> simp [Builtin.append_, run_underlying hu, run_size hi, Builtin.lenOf, Builtin.firstCells, hm, loadCells, loadCellsFrom, storeCells]
  simp only [execOp, resolve, invoke, builtin, Sem.run_bind, Sem.run_pure, Result.andThen_ok, List.map_toArray, List.map_cons, List.map_nil, hx a ha trivial, hy a ha trivial, hr]
theorem grownBy_refl (w : World) (row : Option Nat) : w.grownBy w row := (G.refl w).only row
/-- append(s, y...) of a row that may be empty. -/
theorem sr_appendr {t e z by_ base m q q' cp b : Nat} {x y : Operand} {zv : Value} {xs news : List Value} {o : Option Addr} (hb : (Nat.beq (clOf cl k) 2 && Nat.blt d n) = true) (ht : tyElem P t = some (e, z, by_)) (hzv : zeroOf P e = some zv)
    (hzs : zv.cells.size = z) (hz0 : 0 < z) (hx : Ev n σ True x (.slice (some ⟨b, 0, none⟩) m cp)) (hown : w.ownsRow base e z (.slice (some ⟨b, 0, none⟩) m cp) m xs) (hy : Ev n σ True y (.slice o q q')) (hl : news.length = q * z) (hn : 0 < q → ∃ b' o', o = some ⟨b', o', none⟩ ∧ RowAt w b' o' news) (h1 : ∀ u ∈ news, u.oneCell' = true)
    (h63 : m + q ≤ maxLen) (hby : (m + q) * by_ ≤ 140737488355328) (hbase : base ≤ w.heap.size)
    (h : ∀ a' c' w', w'.ownsRow base e z (.slice a' (m + q) c') (m + q) (xs ++ news) → w.grownBy w' (Value.slice (some ⟨b, 0, none⟩) m cp).ownBlock → SR P ops cl lv W0 n K (k + 1) rest ((d, True, .slice a' (m + q) c') :: σ) w') :
    SR P ops cl lv W0 n K k (⟨some d, .call { callee := .builtin .append, args := #[x, y], argTypes := #[t, t] }, ty, pos, after, none⟩ :: rest) σ w := by
  rcases Nat.eq_zero_or_pos q with h0 | h0
  · subst h0
    have hnil : news = [] := List.eq_nil_of_length_eq_zero (by simpa using hl)
    subst hnil
    obtain ⟨a, c, hv, hmc⟩ := own_sl hown
    injection hv with _ _ hv
    subst hv
    refine sr_append0 hb ht hx hmc hy ?_
    exact h _ _ w (by simpa using hown) (grownBy_refl w _)
  · obtain ⟨b', o', rfl, hr⟩ := hn h0
    obtain ⟨hu, i, hi, hsz, hbyi⟩ := underlying_sl ht
    obtain ⟨i', hi', hz'⟩ := zero_info hzv
    obtain rfl : i = i' := Option.some.inj (hi.symm.trans hi')
    simp only [Bool.and_eq_true] at hb
    have hc := Nat.eq_of_beq_eq_true hb.1
    obtain ⟨s', w', r1, r2, r3, _⟩ := run_append_own (P := P) w base t ty e i zv z by_ hu hi hz' hsz hbyi hzs hz0 _ m xs hown ⟨b', o', none⟩ q q' news hl (fun j u hj => by rw [Addr.add_lit]; exact hr j u hj) h1 h63 hby hbase
    obtain ⟨a', c', hs'⟩ : ∃ a' c', s' = .slice a' (m + q) c' := by
      rcases r2.2 with ⟨q1, q2⟩ | ⟨g, cap, cur, q1, _⟩
      · exact ⟨none, 0, by rw [q1, q2]⟩
      · exact ⟨_, cap, q1⟩
    subst hs'
    refine sr_val (w' := w') (by rw [hc, hb.2]; rfl) (fun d pos after g a ha _ => ?_) (fun hh => by omega) (h a' c' w' r2 r3)
    simp only [execOp, resolve, invoke, builtin, Sem.run_bind, Sem.run_pure, Result.andThen_ok, List.map_toArray, List.map_cons, List.map_nil, hx a ha trivial, hy a ha trivial, r1]
end
end Go.Rk
