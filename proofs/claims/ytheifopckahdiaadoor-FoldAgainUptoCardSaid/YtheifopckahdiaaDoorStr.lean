/- The engine's rules for bytes, strings and strings.Builder. Conditions: none. -/
import Derived.Test.YtheifopckahdiaaDoorMore
import Derived.Lib.Builder
import Derived.Lib.AppendStr
import Derived.Lib.UnsafeStr
import Derived.Laws.Externs
namespace Go.Rk
open Go Go.RowKit
set_option linter.unusedVariables false
section
variable {P : Program} {n : Nat} {σ : List Ent} {c : Prop} {wb : World} {ty : TypeId} {v : Value}
def unsafeTo (P : Program) (src dst : TypeId) : Bool := match P.underlying src, P.underlying dst with
  | some (.pointer t), some .unsafePointer => match P.info? t with | some i => !(Nat.beq i.size 0) | none => false
  | _, _ => false
theorem blk_shape {w : World} {b : Nat} {e : TypeId} {l : List Value} (h : Blk w b e l) : w.shape? b = some (e, l.length) := by
  unfold Blk at h
  simp [World.shape?, h]
theorem rd_to_unsafe {src dst : TypeId} {x : Operand} {b o : Nat} {e : TypeId} {l : List Value} (hk : unsafeTo P src dst = true) (h : Ev n σ c x (.pointer (some ⟨b, o, none⟩))) (hB : c → Blk wb b e l) (ho : Nat.blt o l.length = true) : Rd P n σ c wb (.convert src dst x) ty (.pointer (some ⟨b, o, none⟩)) := fun d pos after gd a ha hc w1 hg => by
  unfold unsafeTo at hk
  split at hk
  · rename_i t hs hd
    split at hk
    · rename_i i hi
      have := Lib.run_to_unsafe w1 ⟨b, o, none⟩ hs hd hi (by intro hz; rw [hz] at hk; cases hk) (blk_shape ((hB hc).grow hg)) (by simpa [Nat.blt_eq] using ho)
      simp [execOp, h a ha hc, this]
    · cases hk
  · cases hk
def unsafeFrom (P : Program) (src dst : TypeId) (e : TypeId) (k o : Nat) : Bool := match P.underlying src, P.underlying dst with
  | some .unsafePointer, some (.pointer u) => (P.info? u).isSome && liesAt P P.depth e (k / P.cellsOf e) o u 1
  | _, _ => false
theorem rd_from_unsafe {src dst : TypeId} {x : Operand} {b o : Nat} {e : TypeId} {l : List Value} (hk : unsafeFrom P src dst e l.length o = true) (h : Ev n σ c x (.pointer (some ⟨b, o, none⟩))) (hB : c → Blk wb b e l) : Rd P n σ c wb (.convert src dst x) ty (.pointer (some ⟨b, o, none⟩)) := fun d pos after gd a ha hc w1 hg => by
  unfold unsafeFrom at hk
  split at hk
  · rename_i u hs hd
    simp only [Bool.and_eq_true] at hk
    obtain ⟨i, hi⟩ := Option.isSome_iff_exists.mp hk.1
    have := Lib.run_from_unsafe w1 ⟨b, o, none⟩ hs hd hi (blk_shape ((hB hc).grow hg)) hk.2
    simp [execOp, h a ha hc, this]
  · cases hk
def isNoEscape (P : Program) (f : FuncId) : Prop := ∀ (x : Value) (w : World), (callFunc f #[x]).run P w = .ok (.value x) w
theorem noEscape_of {f : FuncId} {fn : Func} (hf : P.funcs[f]? = some fn) (hname : (fn.name == "runtime.NumGoroutine") = false) (hb : fn.body.isNone = true) (hn : Extern.findNext fn = none) (he : Extern.find fn = some Extern.AbiNoEscape.same) : isNoEscape P f := fun x w => by
  rw [run_callFunc_extern hf hname hb hn he, Lib.run_noEscape]; rfl
theorem rd_noescape {f : FuncId} {x : Operand} {ats : Array TypeId} (hf : isNoEscape P f) (h : Ev n σ c x v) : Rd P n σ c wb (.call { callee := .value (.func f), args := #[x], argTypes := ats }) ty v := fun d pos after gd a ha hc w1 _ => by
  have h1 := hf v w1
  have e : a.eval (.func f) = .func (.func f) #[] #[] := rfl
  simp [execOp, resolve, invoke, Deferred.ofValue, e, h a ha hc, h1]
theorem rd_pne_same {t u : TypeId} {x y : Operand} {ad : Addr} (ht : tyPtr P t = true) (hz : ∀ e, P.underlying t = some (.pointer e) → (P.info? e).isSome = true) (h : Ev n σ c x (.pointer (some ad))) (h' : Ev n σ c y (.pointer (some ad))) : Rd P n σ c wb (.binOp .neq t x y u) ty (.bool false) := fun d pos after gd a ha hc w1 _ => by
  obtain ⟨e, he⟩ := underlying_ptr ht
  obtain ⟨j, hj⟩ := Option.isSome_iff_exists.mp (hz e he)
  have := Lib.run_neq_ptr_same w1 ad he hj
  simp [execOp, h a ha hc, h' a ha hc, eqGuard_at_pointer, this]
end
section
variable {P : Program} {Z : List PanicEntry → Act → World → Prop} {ops : List Oper} {cl : List Nat} {lv : List Bool} {W0 : World} {n : Nat} {K : Act → World → Prop} {k : Nat} {rest : List Oper} {σ : List Ent} {w : World} {d : Nat} {ty : TypeId} {pos : String} {after : Array Edge}
/-- A guarded call that only grows the memory: one way on, whatever the guard says. -/
theorem sr_callq {g t : Nat} {want b : Bool} {c0 : Prop} {op : Op} {f : FuncId} {args : Array Value} {R : Value → World → Prop} (hb : (!Nat.beq (clOf cl k) 0 && !Nat.beq (clOf cl k) 3 && Nat.blt d n) = true)
    (hgd : ((ops.toArray[g]?).bind (·.dst)) = some t) (hlk : look σ t = some (c0, .bool b)) (hr : c0 ∧ b = want → RunC P n σ (c0 ∧ b = want) w op ty f args) (hC : c0 ∧ b = want → Ret P f args w fun v w' => R v w' ∧ G w w')
    (h : ∀ v w', (c0 ∧ b = want → R v w') → G w w' → SR P Z ops cl lv W0 n K (k + 1) rest ((d, c0 ∧ b = want, v) :: σ) w') :
    SR P Z ops cl lv W0 n K k (⟨some d, op, ty, pos, after, some (g, want)⟩ :: rest) σ w :=
  sr_callg hb hgd hlk hr hC (fun v w' _ hv => ⟨fun _ => hv.2, h v w' (fun _ => hv.1) hv.2⟩) (fun hn => h undef w (fun hc => absurd hc hn) (G.refl w))
/-- append(b, s...) of a string. -/
theorem sr_appends {t u e base m : Nat} {x y : Operand} {s : Value} {xs : List Value} {l : List UInt8} (hb : (Nat.beq (clOf cl k) 2 && Nat.blt d n) = true) (ht : tyElem P t = some (e, 1, 1)) (hzv : zeroOf P e = some (.int .u8 0)) (hus : tyStr P u = true)
    (hx : Ev n σ True x s) (hown : w.ownsRow base e 1 s m xs) (hy : Ev n σ True y (Str l)) (h63 : m + l.length ≤ 140737488355328) (hbase : base ≤ w.heap.size)
    (h : ∀ a' c' w', w'.ownsRow base e 1 (.slice a' (m + l.length) c') (m + l.length) (xs ++ Lib.byteCells l) → w.grownBy w' s.ownBlock → SR P Z ops cl lv W0 n K (k + 1) rest ((d, True, .slice a' (m + l.length) c') :: σ) w') :
    SR P Z ops cl lv W0 n K k (⟨some d, .call { callee := .builtin .append, args := #[x, y], argTypes := #[t, u] }, ty, pos, after, none⟩ :: rest) σ w := by
  obtain ⟨hu, i, hi, hsz, hbyi⟩ := underlying_sl ht
  obtain ⟨i', hi', hz'⟩ := zero_info hzv
  obtain rfl : i = i' := Option.some.inj (hi.symm.trans hi')
  simp only [Bool.and_eq_true] at hb
  have hc := Nat.eq_of_beq_eq_true hb.1
  have hsl : (⟨l.toArray⟩ : ByteArray).size = l.length := by simp [ByteArray.size]
  obtain ⟨s', w', r1, r2, r3, _⟩ := Lib.run_append_own_string (P := P) w base t u ty e i hu (underlying_str hus) hi hz' hsz hbyi s m xs hown ⟨l.toArray⟩ (by rw [hsl]; simp only [maxLen]; omega) (by rw [hsl]; omega) hbase
  rw [hsl] at r2
  obtain ⟨a', c', hs'⟩ : ∃ a' c', s' = .slice a' (m + l.length) c' := by
    rcases r2.2 with ⟨q1, q2⟩ | ⟨g, cap, cur, q1, _⟩
    · exact ⟨none, 0, by rw [q1, q2]⟩
    · exact ⟨_, cap, q1⟩
  subst hs'
  refine sr_val (w' := w') (by rw [hc, hb.2]; rfl) (fun d pos after g a ha _ => ?_) (fun hh => by omega) (h a' c' w' r2 r3)
  simp only [execOp, resolve, invoke, builtin, Sem.run_bind, Sem.run_pure, Result.andThen_ok, List.map_toArray, List.map_cons, List.map_nil, hx a ha trivial, hy a ha trivial, r1]
end
end Go.Rk
