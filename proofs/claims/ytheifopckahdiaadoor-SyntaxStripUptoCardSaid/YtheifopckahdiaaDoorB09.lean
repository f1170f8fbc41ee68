/- Merged texts of one road: Pre, Prn, Prw, Prx, Pry. Conditions: each text's own. -/
import Derived.Test.YtheifopckahdiaaDoorB08
import Derived.Test.YtheifopckahdiaaDoorB05
import Derived.Lib.AppendIntMem
import Derived.Test.YtheifopckahdiaaDoorB02
import Derived.Shelf.Strconv.Itoa3
set_option linter.unusedSimpArgs false
set_option linter.unusedVariables false
namespace Go.Rk
open Go Go.RowKit
set_option linter.unusedVariables false
def exT (t : Nd) (k : Nat) : List UInt8 := (txT t).ex k
def stT (t : Nd) (k : Nat) : List UInt8 := (txT t).st k
def blkT (t : Nd) (k : Nat) : List UInt8 := blkX (txT t) k
theorem memK_1 (a k : Int) : memK [a] k = decide (k = a) := by simp [memK]
theorem memK_3 (k : Int) : memK [32, 31, 33] k = ((decide (k = 32) || decide (k = 31)) || decide (k = 33)) := by
  unfold memK; by_cases h1 : k = 32 <;> by_cases h2 : k = 31 <;> by_cases h3 : k = 33 <;> simp [h1, h2, h3]
theorem joinX_one (f : Nd → List UInt8) {t : Nd} (h : t.kids.length = 1) : joinX (t.kids.map f) = f (kidAt t 0) := by
  obtain ⟨a, ha⟩ := List.length_eq_one_iff.1 h
  rw [show kidAt t 0 = a by simp [kidAt, ha], ha]; simp [joinX]
theorem opr_eq {t : Nd} {i : Nat} (h : i < t.kids.length) (k : Nat) : oprX t (fun i => (t.kids.map txT).getD i tx0) i k = parX (memK [32] (kidAt t i).kind) (exT (kidAt t i) k) := by
  rw [oprX, memK_1]; show parX _ (((t.kids.map txT).getD i tx0).ex k) = _; rw [tx_at h]; rfl
theorem bas_eq {t : Nd} (h : 0 < t.kids.length) (k : Nat) : basX t (fun i => (t.kids.map txT).getD i tx0) k = parX (memK [32, 31, 33] (kidAt t 0).kind) (exT (kidAt t 0) k) := by
  rw [basX, memK_3]; show parX _ (((t.kids.map txT).getD 0 tx0).ex k) = _; rw [tx_at h]; rfl
theorem x_ex {t : Nd} {i : Nat} (h : i < t.kids.length) (k : Nat) : ((t.kids.map txT).getD i tx0).ex k = exT (kidAt t i) k := by rw [tx_at h]; rfl
theorem x_st {t : Nd} {i : Nat} (h : i < t.kids.length) (k : Nat) : ((t.kids.map txT).getD i tx0).st k = stT (kidAt t i) k := by rw [tx_at h]; rfl
theorem x_ls {t : Nd} {i : Nat} (h : i < t.kids.length) (k : Nat) : ((t.kids.map txT).getD i tx0).ls k = (txT (kidAt t i)).ls k := by rw [tx_at h]
theorem x_blk {t : Nd} {i : Nat} (h : i < t.kids.length) (k : Nat) : blkX ((t.kids.map txT).getD i tx0) k = blkT (kidAt t i) k := by rw [tx_at h]; rfl
theorem drop_ex (t : Nd) (k : Nat) : (((t.kids.map txT).drop 1).map fun y => y.ex k) = (t.kids.drop 1).map fun y => exT y k := by
  rw [← List.map_drop, List.map_map]; rfl
theorem exT_24 {t : Nd} (h : t.kind = 24) (k : Nat) : exT t k = digL t.num.toNat := by
  unfold exT; rw [txT_eq]; show exX t (fun i => (t.kids.map txT).getD i tx0) (t.kids.map txT) k = _
  unfold exX; rw [h]
  rfl
theorem exT_25 {t : Nd} (h : t.kind = 25) (k : Nat) : exT t k = bif decide (t.num = 1) then [116, 114, 117, 101] else [102, 97, 108, 115, 101] := by
  unfold exT; rw [txT_eq]; show exX t (fun i => (t.kids.map txT).getD i tx0) (t.kids.map txT) k = _
  unfold exX; rw [h]
  rfl
theorem exT_26 {t : Nd} (h : t.kind = 26) (k : Nat) : exT t k = [110, 105, 108] := by
  unfold exT; rw [txT_eq]; show exX t (fun i => (t.kids.map txT).getD i tx0) (t.kids.map txT) k = _
  unfold exX; rw [h]
  rfl
theorem exT_27 {t : Nd} (h : t.kind = 27) (k : Nat) : exT t k = t.text := by
  unfold exT; rw [txT_eq]; show exX t (fun i => (t.kids.map txT).getD i tx0) (t.kids.map txT) k = _
  unfold exX; rw [h]
  rfl
theorem exT_34 {t : Nd} (h : t.kind = 34) (k : Nat) : exT t k = ([110, 101, 119, 40] ++ t.text) ++ [41] := by
  unfold exT; rw [txT_eq]; show exX t (fun i => (t.kids.map txT).getD i tx0) (t.kids.map txT) k = _
  unfold exX; rw [h]
  rfl
theorem exT_28 {t : Nd} (h : t.kind = 28) (hl : t.kids.length = 1) (k : Nat) : exT t k = (parX (memK [32, 31, 33] (kidAt t 0).kind) (exT (kidAt t 0) k) ++ [46]) ++ t.text := by
  unfold exT; rw [txT_eq]; show exX t (fun i => (t.kids.map txT).getD i tx0) (t.kids.map txT) k = _
  unfold exX; rw [h]; rw [bas_eq (by omega)]
  rfl
theorem exT_29 {t : Nd} (h : t.kind = 29) (hl : t.kids.length = 2) (k : Nat) : exT t k = ((parX (memK [32, 31, 33] (kidAt t 0).kind) (exT (kidAt t 0) k) ++ [91]) ++ exT (kidAt t 1) k) ++ [93] := by
  unfold exT; rw [txT_eq]; show exX t (fun i => (t.kids.map txT).getD i tx0) (t.kids.map txT) k = _
  unfold exX; rw [h]; rw [bas_eq (by omega)]; rw [x_ex (i := 1) (by omega)]
  rfl
theorem exT_30 {t : Nd} (h : t.kind = 30) (hl : 1 ≤ t.kids.length) (k : Nat) : exT t k = ((parX (memK [32, 31, 33] (kidAt t 0).kind) (exT (kidAt t 0) k) ++ [40]) ++ joinX ((t.kids.drop 1).map fun y => exT y k)) ++ [41] := by
  unfold exT; rw [txT_eq]; show exX t (fun i => (t.kids.map txT).getD i tx0) (t.kids.map txT) k = _
  unfold exX; rw [h]; rw [bas_eq (by omega)]; rw [drop_ex]
  rfl
theorem exT_31 {t : Nd} (h : t.kind = 31) (hl : t.kids.length = 1) (k : Nat) : exT t k = t.text ++ parX (memK [32] (kidAt t 0).kind) (exT (kidAt t 0) k) := by
  unfold exT; rw [txT_eq]; show exX t (fun i => (t.kids.map txT).getD i tx0) (t.kids.map txT) k = _
  unfold exX; rw [h]; rw [opr_eq (i := 0) (by omega)]
  rfl
theorem exT_33 {t : Nd} (h : t.kind = 33) (hl : t.kids.length = 1) (k : Nat) : exT t k = [60, 45] ++ parX (memK [32] (kidAt t 0).kind) (exT (kidAt t 0) k) := by
  unfold exT; rw [txT_eq]; show exX t (fun i => (t.kids.map txT).getD i tx0) (t.kids.map txT) k = _
  unfold exX; rw [h]; rw [opr_eq (i := 0) (by omega)]
  rfl
theorem exT_32 {t : Nd} (h : t.kind = 32) (hl : t.kids.length = 2) (k : Nat) : exT t k = (((parX (memK [32] (kidAt t 0).kind) (exT (kidAt t 0) k) ++ [32]) ++ t.text) ++ [32]) ++ parX (memK [32] (kidAt t 1).kind) (exT (kidAt t 1) k) := by
  unfold exT; rw [txT_eq]; show exX t (fun i => (t.kids.map txT).getD i tx0) (t.kids.map txT) k = _
  unfold exX; rw [h]; rw [opr_eq (i := 0) (by omega)]; rw [opr_eq (i := 1) (by omega)]
  rfl
theorem exT_35 {t : Nd} (h : t.kind = 35) (hl : t.kids.length = 1) (k : Nat) : exT t k = ([109, 97, 107, 101, 40, 91, 93, 105, 110, 116, 44, 32] ++ joinX (t.kids.map fun y => exT y k)) ++ [41] := by
  unfold exT; rw [txT_eq]; show exX t (fun i => (t.kids.map txT).getD i tx0) (t.kids.map txT) k = _
  unfold exX; rw [h]; rw [x_ex (i := 0) (by omega)]; rw [joinX_one _ hl]
  rfl
theorem exT_36 {t : Nd} (h : t.kind = 36) (hl : t.kids.length = 1) (k : Nat) : exT t k = ([109, 97, 107, 101, 40, 99, 104, 97, 110, 32, 105, 110, 116, 44, 32] ++ joinX (t.kids.map fun y => exT y k)) ++ [41] := by
  unfold exT; rw [txT_eq]; show exX t (fun i => (t.kids.map txT).getD i tx0) (t.kids.map txT) k = _
  unfold exX; rw [h]; rw [x_ex (i := 0) (by omega)]; rw [joinX_one _ hl]
  rfl
theorem exT_37 {t : Nd} (h : t.kind = 37) (hl : t.kids.length = 1) (k : Nat) : exT t k = ([108, 101, 110, 40] ++ joinX (t.kids.map fun y => exT y k)) ++ [41] := by
  unfold exT; rw [txT_eq]; show exX t (fun i => (t.kids.map txT).getD i tx0) (t.kids.map txT) k = _
  unfold exX; rw [h]; rw [x_ex (i := 0) (by omega)]; rw [joinX_one _ hl]
  rfl
theorem exT_38 {t : Nd} (h : t.kind = 38) (hl : t.kids.length = 1) (k : Nat) : exT t k = [102, 117, 110, 99, 40, 41, 32] ++ blkT (kidAt t 0) k := by
  unfold exT; rw [txT_eq]; show exX t (fun i => (t.kids.map txT).getD i tx0) (t.kids.map txT) k = _
  unfold exX; rw [h]; rw [x_blk (i := 0) (by omega)]
  rfl
theorem stT_11 {t : Nd} (h : t.kind = 11) (hl : t.kids.length = 1) (k : Nat) : stT t k = (t.text ++ [32, 58, 61, 32]) ++ exT (kidAt t 0) k := by
  unfold stT; rw [txT_eq]; show stX t (fun i => (t.kids.map txT).getD i tx0) (t.kids.map txT) k = _
  unfold stX; rw [h]; rw [x_ex (i := 0) (by omega)]
  rfl
theorem stT_12 {t : Nd} (h : t.kind = 12) (hl : t.kids.length = 2) (k : Nat) : stT t k = (exT (kidAt t 0) k ++ [32, 61, 32]) ++ exT (kidAt t 1) k := by
  unfold stT; rw [txT_eq]; show stX t (fun i => (t.kids.map txT).getD i tx0) (t.kids.map txT) k = _
  unfold stX; rw [h]; rw [x_ex (i := 0) (by omega)]; rw [x_ex (i := 1) (by omega)]
  rfl
theorem stT_16 {t : Nd} (h : t.kind = 16) (hl : t.kids.length = 2) (k : Nat) : stT t k = (exT (kidAt t 0) k ++ [32, 60, 45, 32]) ++ exT (kidAt t 1) k := by
  unfold stT; rw [txT_eq]; show stX t (fun i => (t.kids.map txT).getD i tx0) (t.kids.map txT) k = _
  unfold stX; rw [h]; rw [x_ex (i := 0) (by omega)]; rw [x_ex (i := 1) (by omega)]
  rfl
theorem stT_13 {t : Nd} (h : t.kind = 13) (hl : t.kids.length = 1) (k : Nat) : stT t k = exT (kidAt t 0) k := by
  unfold stT; rw [txT_eq]; show stX t (fun i => (t.kids.map txT).getD i tx0) (t.kids.map txT) k = _
  unfold stX; rw [h]; rw [x_ex (i := 0) (by omega)]
  rfl
theorem stT_14 {t : Nd} (h : t.kind = 14) (hl : t.kids.length = 1) (k : Nat) : stT t k = [103, 111, 32] ++ exT (kidAt t 0) k := by
  unfold stT; rw [txT_eq]; show stX t (fun i => (t.kids.map txT).getD i tx0) (t.kids.map txT) k = _
  unfold stX; rw [h]; rw [x_ex (i := 0) (by omega)]
  rfl
theorem stT_15 {t : Nd} (h : t.kind = 15) (hl : t.kids.length = 1) (k : Nat) : stT t k = [100, 101, 102, 101, 114, 32] ++ exT (kidAt t 0) k := by
  unfold stT; rw [txT_eq]; show stX t (fun i => (t.kids.map txT).getD i tx0) (t.kids.map txT) k = _
  unfold stX; rw [h]; rw [x_ex (i := 0) (by omega)]
  rfl
theorem stT_17 {t : Nd} (h : t.kind = 17) (hl : t.kids.length = 1) (k : Nat) : stT t k = ([99, 108, 111, 115, 101, 40] ++ joinX (t.kids.map fun y => exT y k)) ++ [41] := by
  unfold stT; rw [txT_eq]; show stX t (fun i => (t.kids.map txT).getD i tx0) (t.kids.map txT) k = _
  unfold stX; rw [h]; rw [x_ex (i := 0) (by omega)]; rw [joinX_one _ hl]
  rfl
theorem stT_21 {t : Nd} (h : t.kind = 21) (hl : t.kids.length = 1) (k : Nat) : stT t k = ([112, 114, 105, 110, 116, 40] ++ joinX (t.kids.map fun y => exT y k)) ++ [41] := by
  unfold stT; rw [txT_eq]; show stX t (fun i => (t.kids.map txT).getD i tx0) (t.kids.map txT) k = _
  unfold stX; rw [h]; rw [x_ex (i := 0) (by omega)]; rw [joinX_one _ hl]
  rfl
theorem stT_20n {t : Nd} (h : t.kind = 20) (hl : t.kids.length = 0) (k : Nat) : stT t k = [114, 101, 116, 117, 114, 110] := by
  unfold stT; rw [txT_eq]; show stX t (fun i => (t.kids.map txT).getD i tx0) (t.kids.map txT) k = _
  unfold stX lenK; rw [h, hl]
  rfl
theorem stT_20 {t : Nd} (h : t.kind = 20) (hl : t.kids.length = 1) (k : Nat) : stT t k = ([114, 101, 116, 117, 114, 110] ++ [32]) ++ joinX (t.kids.map fun y => exT y k) := by
  unfold stT; rw [txT_eq]; show stX t (fun i => (t.kids.map txT).getD i tx0) (t.kids.map txT) k = _
  unfold stX lenK; rw [h, hl, x_ex (i := 0) (by omega), joinX_one _ hl]
  rfl
theorem stT_10 {t : Nd} (h : t.kind = 10) (k : Nat) : stT t k = blkT t k := by
  unfold stT blkT; rw [txT_eq]; show stX t (fun i => (t.kids.map txT).getD i tx0) (t.kids.map txT) k = _
  unfold stX; rw [h]
  rfl
theorem stT_6 {t : Nd} (h : t.kind = 6) (hl : t.kids.length = 2) (k : Nat) : stT t k = ((([118, 97, 114, 32] ++ t.text) ++ [32]) ++ typeX (kidAt t 0)) ++ (bif decide ((kidAt t 1).kind = 9) then [] else [32, 61, 32] ++ exT (kidAt t 1) k) := by
  unfold stT; rw [txT_eq]; show stX t (fun i => (t.kids.map txT).getD i tx0) (t.kids.map txT) k = _
  unfold stX varX; rw [h, x_ex (i := 1) (by omega)]
  rfl
theorem stT_18 {t : Nd} (h : t.kind = 18) (hl : t.kids.length = 3) (hk : (kidAt t 2).kind = 10 ∨ (kidAt t 2).kind = 18 ∨ (kidAt t 2).kind = 9) (k : Nat) : stT t k = ((([105, 102, 32] ++ exT (kidAt t 0) k) ++ [32]) ++ blkT (kidAt t 1) k) ++ (bif decide ((kidAt t 2).kind = 9) then [] else [32, 101, 108, 115, 101, 32] ++ stT (kidAt t 2) k) := by
  have e : stT t k = ifX t (fun i => (t.kids.map txT).getD i tx0) k := by
    unfold stT; rw [txT_eq]; show stX t (fun i => (t.kids.map txT).getD i tx0) (t.kids.map txT) k = _
    unfold stX; rw [h]; rfl
  rw [e, ifX, x_ex (i := 0) (by omega), x_blk (i := 1) (by omega), x_blk (i := 2) (by omega), x_st (i := 2) (by omega)]
  rcases hk with hk | hk | hk
  · rw [stT_10 hk, hk]; rfl
  · rw [hk]; rfl
  · rw [hk]; rfl
theorem stT_19 {t : Nd} (h : t.kind = 19) (hl : t.kids.length = 2) (k : Nat) : stT t k = bif decide ((kidAt t 0).kind = 9) then [102, 111, 114, 32] ++ blkT (kidAt t 1) k else (([102, 111, 114, 32] ++ exT (kidAt t 0) k) ++ [32]) ++ blkT (kidAt t 1) k := by
  unfold stT; rw [txT_eq]; show stX t (fun i => (t.kids.map txT).getD i tx0) (t.kids.map txT) k = _
  unfold stX; rw [h, x_ex (i := 0) (by omega), x_blk (i := 1) (by omega)]
  rfl
def pcsX (t : Nd) (k : Nat) : List UInt8 := (bif decide ((kidAt t 0).kind = 9) then [100, 101, 102, 97, 117, 108, 116, 58] else ([99, 97, 115, 101, 32] ++ stT (kidAt t 0) k) ++ [58]) ++ plX (kidAt t 1).kids stT (k + 1)
theorem ls_eq' (t : Nd) (k : Nat) : (txT t).ls k = t.kids.flatMap fun c => (tabsL k ++ stT c k) ++ [10] := ls_eq t k
theorem pcs_eq {t : Nd} (h : t.kids.length = 2) (k : Nat) : (tabsL k ++ pcsX t k) ++ [10] = (txT t).cs k := by
  rw [txT_eq]; show _ = csX t (fun i => (t.kids.map txT).getD i tx0) k
  have hr := rot (kidAt t 1).kids stT (k + 1)
  rw [csX, x_st (i := 0) (by omega), x_ls (i := 1) (by omega), ls_eq', pcsX, ← List.append_assoc, List.append_assoc _ (plX _ _ _), hr]
  cases decide ((kidAt t 0).kind = 9) <;> simp [List.append_assoc]
theorem stT_22 {t : Nd} (h : t.kind = 22) (hk : ∀ c ∈ t.kids, c.kids.length = 2) (k : Nat) : stT t k = (([115, 101, 108, 101, 99, 116, 32, 123] ++ plX t.kids pcsX k) ++ ([10] ++ tabsL k)) ++ [125] := by
  have e : stT t k = (([115, 101, 108, 101, 99, 116, 32, 123, 10] ++ t.kids.flatMap fun y => (txT y).cs k) ++ tabsL k) ++ [125] := by
    unfold stT; rw [txT_eq]; show stX t (fun i => (t.kids.map txT).getD i tx0) (t.kids.map txT) k = _
    unfold stX; rw [h]
    show (([115, 101, 108, 101, 99, 116, 32, 123, 10] ++ (t.kids.map txT).flatMap fun y => y.cs k) ++ tabsL k) ++ [125] = _
    rw [List.flatMap_map]
  have hr := rot t.kids pcsX k
  have hm : (t.kids.flatMap fun c => (tabsL k ++ pcsX c k) ++ [10]) = t.kids.flatMap fun y => (txT y).cs k := by
    rw [List.flatMap_def, List.flatMap_def]; congr 1
    exact List.map_congr_left fun c hc => pcs_eq (hk c hc) k
  rw [hm] at hr
  rw [e, ← List.append_assoc ([115, 101, 108, 101, 99, 116, 32, 123] ++ _), List.append_assoc [115, 101, 108, 101, 99, 116, 32, 123], hr]
  simp [List.append_assoc]
theorem blkT_eq (t : Nd) (k : Nat) : blkT t k = (([123] ++ plX t.kids stT (k + 1)) ++ ([10] ++ tabsL k)) ++ [125] := by
  rw [blkT, blk_eq]; simp only [List.append_assoc]; rfl
def decX (t : Nd) (k : Nat) : List UInt8 :=
  bif decide (t.kind = 2) then ((([116, 121, 112, 101, 32] ++ t.text ++ [32, 115, 116, 114, 117, 99, 116, 32, 123]) ++ plX t.kids (fun c _ => fieldX c) (k + 1)) ++ ([10] ++ tabsL k)) ++ [125]
  else ((((([102, 117, 110, 99, 32] ++ t.text) ++ [40]) ++ joinX ((kidAt t 0).kids.map fieldX)) ++ [41, 32]) ++ (bif decide ((kidAt t 1).kind = 9) then [] else typeX (kidAt t 1) ++ [32])) ++ blkT (kidAt t 2) k
/-- What the printer's stmt prints. -/
def pst (t : Nd) (k : Nat) : List UInt8 := bif decide (t.kind = 3) then fieldX t else bif decide (t.kind = 23) then pcsX t k else bif decide (t.kind = 2) || decide (t.kind = 4) then decX t k else stT t k
theorem dec_eq {t : Nd} (h : t.kind = 6 ∨ t.kind = 2 ∨ t.kind = 4) : declX t = pst t 0 := by
  rcases h with h | h | h
  · rw [declX, pst, h]; rfl
  · rw [declX, pst, h]
    show ((([116, 121, 112, 101, 32] ++ t.text) ++ [32, 115, 116, 114, 117, 99, 116, 32, 123, 10]) ++ t.kids.flatMap fun f => (((([9] ++ f.text) ++ [32]) ++ typeX (kidAt f 0)) ++ [10])) ++ [125] = decX t 0
    have hr := rot t.kids (fun c _ => fieldX c) 1
    rw [decX, h]
    show _ = ((([116, 121, 112, 101, 32] ++ t.text ++ [32, 115, 116, 114, 117, 99, 116, 32, 123]) ++ plX t.kids (fun c _ => fieldX c) 1) ++ ([10] ++ tabsL 0)) ++ [125]
    rw [show tabsL 0 = [] from rfl, List.append_nil, List.append_assoc ([116, 121, 112, 101, 32] ++ t.text ++ [32, 115, 116, 114, 117, 99, 116, 32, 123]), hr]
    have e : (fun c : Nd => (tabsL 1 ++ fieldX c) ++ [10]) = fun f => (((([9] ++ f.text) ++ [32]) ++ typeX (kidAt f 0)) ++ [10]) := by
      funext c; rw [fieldX]; simp [tabsL, List.append_assoc]
    rw [e]; simp [List.append_assoc]
  · rw [declX, pst, h]; show _ = decX t 0; rw [decX, h]; rfl
theorem pst_stmt {t : Nd} (h : stmtB t = true) : pst t = stT t := by
  funext k
  have hn : ∀ a, stK a = false → t.kind ≠ a := by intro a ha e; unfold stmtB at h; rw [e, ha] at h; cases h
  rw [pst, decide_eq_false (hn 3 (by decide)), decide_eq_false (hn 23 (by decide)), decide_eq_false (hn 2 (by decide)), decide_eq_false (hn 4 (by decide))]; rfl
theorem pst_field {t : Nd} (h : t.kind = 3) : pst t = fun _ => fieldX t := by funext k; rw [pst, h]; rfl
theorem pst_case {t : Nd} (h : t.kind = 23) : pst t = pcsX t := by funext k; rw [pst, h]; rfl
def pstB (t : Nd) : Bool := ((stmtB t || fieldB t) || caseB t) || declB t
theorem plX_congr {l : List Nd} {f g : Nd → Nat → List UInt8} (h : ∀ c ∈ l, f c = g c) (k : Nat) : plX l f k = plX l g k := by
  rw [plX, plX, List.flatMap_def, List.flatMap_def]; congr 1
  exact List.map_congr_left fun c hc => by rw [h c hc]
theorem dec2 {t : Nd} (h : t.kind = 2) (hx : declB t = true) : t.text ≠ [] ∧ t.kids.all fieldB = true := by
  rw [← refDecl_eq, refDecl, h] at hx
  have hx : (nameB t.text && t.kids.all fieldB) = true := hx
  simp only [Bool.and_eq_true] at hx
  exact ⟨name_ne hx.1, hx.2⟩
theorem dec6 {t : Nd} (h : t.kind = 6) (hx : declB t = true) : varB t = true := by
  rw [← refDecl_eq, refDecl, h] at hx
  have hx : (varB t && noneB (kidAt t 1)) = true := hx
  exact (Bool.and_eq_true_iff.1 hx).1
theorem dec4 {t : Nd} (h : t.kind = 4) (hx : declB t = true) : t.text ≠ [] ∧ t.kids.length = 3 ∧ (kidAt t 0).kids.all fieldB = true ∧ (noneB (kidAt t 1) = true ∨ isTypeB (kidAt t 1) = true) ∧ blockB (kidAt t 2) = true := by
  rw [← refDecl_eq, refDecl, h] at hx
  have hx : (bif !nameB t.text || !lenK t 3 then false else (((decide ((kidAt t 0).kind = 5) && plainB (kidAt t 0)) && (kidAt t 0).kids.all fieldB) && (noneB (kidAt t 1) || isTypeB (kidAt t 1))) && blockB (kidAt t 2)) = true := hx
  cases h1 : (!nameB t.text || !lenK t 3)
  · rw [h1, cond_false] at hx
    simp only [Bool.and_eq_true, Bool.or_eq_true] at hx
    simp only [Bool.or_eq_false_iff, Bool.not_eq_false'] at h1
    exact ⟨name_ne h1.1, by (have hz := h1.2; first | (unfold lenK at hz; simp at hz; omega) | (simp at hz; omega)), hx.1.1.2, hx.1.2, hx.2⟩
  · rw [h1] at hx; cases hx
theorem decl_kind {t : Nd} (hx : declB t = true) : t.kind = 6 ∨ t.kind = 2 ∨ t.kind = 4 := by
  unfold declB memK at hx
  simp only [Bool.and_eq_true, decide_eq_true_eq, List.mem_cons, List.not_mem_nil, or_false] at hx
  rcases hx.1.1 with h | h | h
  · exact .inr (.inl h)
  · exact .inl h
  · exact .inr (.inr h)
theorem pst_cases {t : Nd} (h : pstB t = true) : (t.kind = 2 ∧ declB t = true) ∨ (t.kind = 3 ∧ fieldB t = true) ∨ (t.kind = 4 ∧ declB t = true) ∨ (t.kind = 6 ∧ varB t = true) ∨ (t.kind = 23 ∧ caseB t = true) ∨ stmtB t = true := by
  unfold pstB at h
  simp only [Bool.or_eq_true] at h
  rcases h with ((h | h) | h) | h
  · exact .inr (.inr (.inr (.inr (.inr h))))
  · exact .inr (.inl ⟨(sh3 h).1, h⟩)
  · exact .inr (.inr (.inr (.inr (.inl ⟨(sh23 h).1, h⟩))))
  · rcases decl_kind h with e | e | e
    · exact .inr (.inr (.inr (.inl ⟨e, dec6 e h⟩)))
    · exact .inl ⟨e, h⟩
    · exact .inr (.inr (.inl ⟨e, h⟩))
end Go.Rk
namespace Go.Rk
open Go Go.RowKit
set_option linter.unusedVariables false
/-- The table of powers, whatever is done from block n0 on. -/
def LaidP (n0 : Nat) (w : World) : Prop := Lib.TabBelow PP n0 w "internal/strconv.uint64pow10" .u64 Lib.pow10Tab
/-- The printer in block b holds bytes; it stands at k tabs. -/
structure Prn (n0 b : Nat) (l : List UInt8) (k : Nat) (w : World) : Prop where
  bld : ∃ p a q, Bld n0 b l (k : Int) p a q w ∧ (l = [] → a = none)
  tab : LaidP n0 w
/-- A block of bytes. -/
def ByR (w : World) (k : Nat) : Prop := ∃ cs fr, w.heap[k]? = some (.cells cs ty_uint8 fr)
/-- What the printer leaves alone. -/
structure PF (n0 b : Nat) (w w' : World) : Prop where
  os : w'.os = w.os
  tape : w'.tape = w.tape
  output : w'.output = w.output
  size : w.heap.size ≤ w'.heap.size
  block : ∀ k, k < w.heap.size → (k < n0 ∨ (k ≠ b ∧ ¬ ByR w k)) → w'.heap[k]? = w.heap[k]?
theorem PF.refl (n0 b : Nat) (w : World) : PF n0 b w w := ⟨rfl, rfl, rfl, Nat.le_refl _, fun _ _ _ => rfl⟩
theorem PF.trans {n0 b : Nat} {u v w : World} (h : PF n0 b u v) (k : PF n0 b v w) : PF n0 b u w :=
  ⟨k.os.trans h.os, k.tape.trans h.tape, k.output.trans h.output, Nat.le_trans h.size k.size, fun i hi hb => by
    have e := h.block i hi hb
    refine (k.block i (Nat.lt_of_lt_of_le hi h.size) (hb.imp id fun hb => ⟨hb.1, fun hr => hb.2 ?_⟩)).trans e
    obtain ⟨cs, fr, hr⟩ := hr
    exact ⟨cs, fr, e.symm.trans hr⟩⟩
theorem PF.of_g {n0 b : Nat} {w w' : World} (h : G w w') : PF n0 b w w' := ⟨h.os, h.tape, h.output, h.size, fun k hk _ => h.block hk⟩
theorem PF.below {n0 b : Nat} {w w' : World} (h : PF n0 b w w') (hn : n0 ≤ w.heap.size) : Go.RowKit.Below n0 w w' := ⟨h.os, h.tape, h.output, h.size, fun k hk => h.block k (by omega) (.inl hk)⟩
theorem pf_only {n0 b : Nat} {w0 w w' : World} {j : Nat} (h : PF n0 b w0 w) (hg : w.grownBy w' (some j)) (hj : w0.heap.size ≤ j) : PF n0 b w0 w' :=
  ⟨hg.os.trans h.os, hg.tape.trans h.tape, hg.output.trans h.output, Nat.le_trans h.size hg.size, fun k hk hb => (hg.block k (Nat.lt_of_lt_of_le hk h.size) (by intro e; injection e with e; omega)).trans (h.block k hk hb)⟩
theorem pf_b {n0 b : Nat} {w0 w w' : World} (h : PF n0 b w0 w) (hg : w.grownBy w' (some b)) (hb : n0 ≤ b) : PF n0 b w0 w' :=
  ⟨hg.os.trans h.os, hg.tape.trans h.tape, hg.output.trans h.output, Nat.le_trans h.size hg.size, fun k hk hk2 => (hg.block k (Nat.lt_of_lt_of_le hk h.size) (by intro e; injection e with e; rcases hk2 with h | h; omega; exact h.1 e)).trans (h.block k hk hk2)⟩
theorem Blk.pf {n0 b j : Nat} {w w' : World} {e : TypeId} {l : List Value} (h : Blk w j e l) (g : PF n0 b w w') (he : Nat.beq e ty_uint8 = false) (hj : j ≠ b) : Blk w' j e l := by
  refine (g.block j h.lt (.inr ⟨hj, fun ⟨cs, fr, hr⟩ => ?_⟩)).trans h
  unfold Blk at h
  rw [h] at hr; injection hr with hr; injection hr with _ hr; subst hr; simp at he
theorem Kd.pf {n0 b : Nat} {w w' : World} {D : Nat → Prop} {ks : List Nd} {v : Value} (h : Kd w D ks v) (g : PF n0 b w w') (hD : ∀ k, D k → k < n0) : Kd w' D ks v :=
  kd_frame h (fun _ h _ => h) fun k hk hlt => g.block k hlt (.inl (hD k hk))
theorem RowAt.pf {n0 b j o : Nat} {w w' : World} {l : List Value} (h : RowAt w j o l) (g : PF n0 b w w') (hj : j < n0) : RowAt w' j o l := fun i v hi => by
  have h1 := h i v hi
  exact (World.cell?_of_block (g.block j (World.block_lt_of_cell? w _ h1) (.inl hj))).trans h1
theorem own_byr {n0 : Nat} {w : World} {v : Value} {m : Nat} {xs : List Value} (h : w.ownsRow n0 ty_uint8 1 v m xs) {k : Nat} (hk : v.ownBlock = some k) : ByR w k := by
  rcases h.2 with ⟨h1, _⟩ | ⟨g, cap, cur, h1, _, h3, _⟩
  · rw [h1] at hk; cases hk
  · rw [h1] at hk
    have : g = k := by injection hk
    subst this
    exact ⟨_, _, h3⟩
theorem pf_keep {n0 b : Nat} {w w' : World} {l : List UInt8} {k : Int} {p a : Option Addr} {q : Nat} (h : Bld n0 b l k p a q w) (hb : Go.RowKit.Below n0 w w') (hk : Keep b (.slice a l.length q) w w') : PF n0 b w w' :=
  ⟨hb.os, hb.tape, hb.output, hb.size, fun j hj hh => by
    rcases hh with hh | ⟨h1, h2⟩
    · exact hb.block j hh
    · exact hk.block j hj h1 fun e => h2 (own_byr h.row e)⟩
theorem Prn.grow {n0 b : Nat} {l : List UInt8} {k : Nat} {w w' : World} (h : Prn n0 b l k w) (g : G w w') : Prn n0 b l k w' := by
  obtain ⟨p, a, q, h1, h2⟩ := h.bld
  exact ⟨⟨p, a, q, h1.grow g, h2⟩, h.tab.on (below_g g (by have := h1.hb; have := h1.B.lt; omega))⟩
theorem Prn.ge {n0 b : Nat} {l : List UInt8} {k : Nat} {w : World} (h : Prn n0 b l k w) : n0 ≤ b ∧ b < w.heap.size := by
  obtain ⟨p, a, q, h1, h2⟩ := h.bld
  exact ⟨h1.hb, h1.B.lt⟩
/-- It stays as it is where neither its block nor bytes are written. -/
theorem Prn.keep {n0 b j : Nat} {l : List UInt8} {k : Nat} {w w' : World} {e : TypeId} {xs : List Value} (h : Prn n0 b l k w) (hg : w.grownBy w' (some j)) (hB : Blk w j e xs) (he : Nat.beq e ty_uint8 = false) (hj : j ≠ b) (hn : n0 ≤ j) : Prn n0 b l k w' := by
  obtain ⟨p, a, q, h1, h2⟩ := h.bld
  have hne : (Value.slice a l.length q).ownBlock ≠ some j := fun e2 => by
    obtain ⟨cs, fr, hr⟩ := own_byr h1.row e2
    unfold Blk at hB
    rw [hB] at hr; injection hr with hr; injection hr with _ hr; subst hr; simp at he
  exact ⟨⟨p, a, q, { h1 with B := h1.B.keep hg (by intro e; injection e with e; exact hj e.symm), row := own_keep h1.row hg (.inr hne) }, h2⟩, h.tab.on (below_only (Go.RowKit.Below.refl _ _) hg (by have := h1.hb; have := h1.B.lt; omega) (fun k hk => by injection hk with hk; omega))⟩
/-- A contract of the printer: it writes s. -/
@[reducible] def Wr (n0 b : Nat) (l s : List UInt8) (k : Nat) (w : World) (r : Value) (w' : World) : Prop := r = .tuple #[] ∧ Prn n0 b (l ++ s) k w' ∧ PF n0 b w w'
theorem prn_string {n0 b : Nat} {l : List UInt8} {k : Nat} {w : World} (s : List UInt8) (h : Prn n0 b l k w) (hl : l.length + s.length < 100000000) (hs : s ≠ []) :
    Ret PP fn_strings_Builder_WriteString #[.pointer (some ⟨b, 0, none⟩), Str s] w fun _ w' => Prn n0 b (l ++ s) k w' ∧ PF n0 b w w' := by
  obtain ⟨p, a, q, h1, h2⟩ := h.bld
  refine (writestring_ok n0 b l k p a q s w h1 hl).mono fun v w' ⟨_, ⟨a', q', h3⟩, hb, hk⟩ => ?_
  exact ⟨⟨⟨_, a', q', h3, fun e => absurd (List.append_eq_nil_iff.1 e).2 hs⟩, h.tab.on hb⟩, pf_keep h1 hb hk⟩
theorem prn_byte {n0 b : Nat} {l : List UInt8} {k : Nat} {w : World} (c : UInt8) (h : Prn n0 b l k w) (hl : l.length < 100000000) :
    Ret PP fn_strings_Builder_WriteByte #[.pointer (some ⟨b, 0, none⟩), .int .u8 c.toNat] w fun _ w' => Prn n0 b (l ++ [c]) k w' ∧ PF n0 b w w' := by
  obtain ⟨p, a, q, h1, h2⟩ := h.bld
  refine (writebyte_ok n0 b l k p a q c w h1 hl).mono fun v w' ⟨_, ⟨a', q', h3⟩, hb, hk⟩ => ?_
  exact ⟨⟨⟨_, a', q', h3, fun e => absurd (List.append_eq_nil_iff.1 e).2 (by simp)⟩, h.tab.on hb⟩, pf_keep h1 hb hk⟩
end Go.Rk
namespace Go.Rk
open Go Go.RowKit
set_option linter.unusedVariables false
theorem RowAt.pfb {n0 b j o : Nat} {w w' : World} {l : List Value} (h : RowAt w j o l) (g : PF n0 b w w') (hj : j ≠ b) (hr : ¬ ByR w j) : RowAt w' j o l := fun i v hi => by
  have h1 := h i v hi
  exact (World.cell?_of_block (g.block j (World.block_lt_of_cell? w _ h1) (.inr ⟨hj, hr⟩))).trans h1
theorem blk_byr {w : World} {b : Nat} {e : TypeId} {l : List Value} (h : Blk w b e l) (he : Nat.beq e ty_uint8 = false) : ¬ ByR w b := fun ⟨cs, fr, hr⟩ => by
  unfold Blk at h
  rw [h] at hr; injection hr with hr; injection hr with _ hr; subst hr; simp at he
theorem flatten_take_succ {α : Type} {ts : List (List α)} {i : Nat} (h : i < ts.length) : (ts.take (i + 1)).flatten = (ts.take i).flatten ++ ts[i] := by
  rw [List.take_add_one, List.getElem?_eq_getElem h, List.flatten_append]; simp
theorem flatten_take_le {α : Type} (ts : List (List α)) (i : Nat) : (ts.take i).flatten.length ≤ ts.flatten.length := by
  conv => rhs; rw [← List.take_append_drop i ts, List.flatten_append, List.length_append]
  omega
theorem write_b {n0 b : Nat} {l : List UInt8} {k : Nat} {w : World} (ts : List (List UInt8)) (b' o c : Nat) (hP : Prn n0 b l k w) (hR : RowAt w b' o (ts.map Str)) (hb : b' ≠ b) (hbr : ¬ ByR w b') (hlen : l.length + ts.flatten.length < 100000000) (hn : ∀ s ∈ ts, s ≠ []) (hts : ts.length ≤ 1000) :
    RetB PP fn_syntax_printer_write #[.pointer (some ⟨b, 0, none⟩), .slice (some ⟨b', o, none⟩) ts.length c] w (Wr n0 b l ts.flatten k w) := by
  have g := PF.refl n0 b w
  refine retB_of_sc (m := 18) func_syntax_printer_write rfl rfl [(0, True, _), (1, True, _)] (sub_cons rfl (sub_cons rfl (sub_nil _))) ?_
  refine sc_seq fun K1 hK1 => ?_
  refine sc_text [3, 3, 3] ?_
  refine sr_pu rfl (fun _ => rd_move (ev_t rfl)) ?_
  refine sr_pu rfl (fun _ => rd_len el_sl_string (ev_t rfl)) ?_
  refine sr_pu rfl (fun _ => rd_move ev_c) ?_
  refine sr_sub [(0, _, _), (6, _, _), (7, _, _), (8, _, _)] (sub_cons rfl (sub_cons rfl (sub_cons rfl (sub_cons rfl (sub_nil _))))) ?_
  refine sr_nil (hK1 _ _ ?_)
  refine sc_block ?_
  refine sc_loop2 (fun (i : Nat) u1 => (i ≤ ts.length ∧ Prn n0 b (l ++ (ts.take i).flatten) k u1) ∧ PF n0 b w u1) [(0, True, _), (6, True, _), (7, True, _)] (fun (i : Nat) => [(8, True, .int .i64 i)]) (fun (i : Nat) => ts.length - i) (0) ⟨⟨Nat.zero_le _, by simpa using hP⟩, PF.refl _ _ _⟩ (sub_cons rfl (sub_cons rfl (sub_cons rfl (sub_cons rfl (sub_nil _))))) ?_
  rintro i u1 ⟨hI1, gl1⟩
  have g := g.trans gl1
  obtain ⟨hi, hP⟩ := hI1
  refine sc_seq fun K2 hK2 => ?_
  refine sc_text [3] ?_
  refine sr_pu rfl (fun _ => rd_lt (ev_t rfl) (ev_t rfl)) ?_
  refine sr_nil (hK2 _ _ ?_)
  refine sc_sub [(0, _, _), (6, _, _), (7, _, _), (8, _, _), (9, _, _)] (sub_cons rfl (sub_cons rfl (sub_cons rfl (sub_cons rfl (sub_cons rfl (sub_nil _)))))) ?_
  refine sc_seq fun K3 hK3 => ?_
  refine sc_cond (ev_t rfl) (fun h1 => ?_) (fun h1 => ?_)
  · replace h1 : i < ts.length := by simp only [decide_eq_true_eq] at h1; omega
    have hv : (ts.map Str)[i * 1]? = some (Str ts[i]) := by simp [h1]
    have hfl := flatten_take_le ts (i + 1)
    rw [flatten_take_succ h1, List.length_append] at hfl
    refine sc_skip (hK3 _ _ ?_)
    refine sc_sub [(0, _, _), (6, _, _), (7, _, _), (8, _, _)] (sub_cons rfl (sub_cons rfl (sub_cons rfl (sub_cons rfl (sub_nil _))))) ?_
    refine sc_seq fun K4 hK4 => ?_
    refine sc_block ?_
    refine sc_seq fun K5 hK5 => ?_
    refine sc_text [3, 0, 3] ?_
    refine sr_pu rfl (fun _ => rd_idx el_sl_string (ev_t rfl) (ev_t rfl) (fun _ => by omega)) ?_
    refine sr_rd rfl (rd_load one_string (ev_t rfl) (fun _ => (hR.pfb g hb hbr) _ _ hv)) ?_
    refine sr_pu rfl (fun _ => rd_assign (ev_t rfl)) ?_
    refine sr_sub [(0, _, _), (5, _, _), (6, _, _), (7, _, _), (8, _, _)] (sub_cons rfl (sub_cons rfl (sub_cons rfl (sub_cons rfl (sub_cons rfl (sub_nil _)))))) ?_
    refine sr_nil (hK5 _ _ ?_)
    refine sc_text [3, 3, 3, 3, 2] ?_
    refine sr_pu rfl (fun _ => rd_move (ev_t rfl)) ?_
    refine sr_pu rfl (fun _ => rd_nil (ev_t rfl)) ?_
    refine sr_pu rfl (fun _ => rd_field fo_syntax_printer_0 (ev_t rfl)) ?_
    refine sr_pu rfl (fun _ => rd_move (ev_t rfl)) ?_
    refine sr_call rfl (rc_call go_strings_Builder_WriteString ev_f (args_cons (ev_t rfl) (args_cons (ev_t rfl) (args_nil))) rfl) (prn_string ts[i] hP (by simp only [List.length_append]; omega) (hn _ (List.getElem_mem h1))) ?_
    rintro v16 w16 ⟨hP, g16⟩
    refine ⟨fun h => absurd h (by decide), ?_⟩
    have g := g.trans g16
    try have gl1 := gl1.trans g16
    refine sr_sub [(0, _, _), (6, _, _), (7, _, _), (8, _, _)] (sub_cons rfl (sub_cons rfl (sub_cons rfl (sub_cons rfl (sub_nil _))))) ?_
    refine sr_nil (hK4 _ _ ?_)
    refine sc_text [3, 3] ?_
    refine sr_pu rfl (fun _ => rd_add (ev_t rfl) ev_c (fun _ => by omega)) ?_
    refine sr_pu rfl (fun _ => rd_move (ev_t rfl)) ?_
    refine sr_sub [(8, _, _), (0, _, _), (6, _, _), (7, _, _)] (sub_cons rfl (sub_cons rfl (sub_cons rfl (sub_cons rfl (sub_nil _))))) ?_
    refine sr_nil (fun a ha => ?_)
    exact ⟨i + 1, ha, ⟨⟨h1, by rw [flatten_take_succ h1, ← List.append_assoc]; exact hP⟩, gl1⟩, by omega⟩
  replace h1 : i = ts.length := by simp only [decide_eq_false_iff_not] at h1; omega
  refine sc_exit rfl (t_end0 rfl ?_)
  refine ⟨rfl, ?_, g⟩
  rw [h1, List.take_length] at hP; exact hP
theorem write_ok {n0 b : Nat} {l : List UInt8} {k : Nat} {w : World} (ts : List (List UInt8)) {b' : Nat} (hP : Prn n0 b l k w) (hR : Blk w b' ty_string (ts.map Str)) (hb : b' ≠ b) (hlen : l.length + ts.flatten.length < 100000000) (hn : ts.all (fun s => !s.isEmpty) = true) (hts : ts.length ≤ 1000) :
    Ret PP fn_syntax_printer_write #[.pointer (some ⟨b, 0, none⟩), .slice (some ⟨b', 0, none⟩) ts.length ts.length] w (Wr n0 b l ts.flatten k w) :=
  (write_b ts b' 0 _ hP hR.row hb (blk_byr hR rfl) hlen (fun s hs => by
    have := List.all_eq_true.1 hn s hs
    intro e; subst e; simp at this) hts).ret
/-- A new line. -/
theorem line_ok {n0 b : Nat} {l : List UInt8} {k : Nat} {w : World} (hP : Prn n0 b l k w) (hlen : l.length + k + 1 < 100000000) : Ret PP fn_syntax_printer_line #[.pointer (some ⟨b, 0, none⟩)] w (Wr n0 b l ([10] ++ tabsL k) k w) := by
  have g := PF.refl n0 b w
  refine ret_of_sc (m := 17) func_syntax_printer_line rfl rfl [(0, True, _)] (sub_cons rfl (sub_nil _)) ?_
  refine sc_seq fun K1 hK1 => ?_
  refine sc_text [3, 3, 3, 2] ?_
  refine sr_pu rfl (fun _ => rd_move (ev_t rfl)) ?_
  refine sr_pu rfl (fun _ => rd_nil (ev_t rfl)) ?_
  refine sr_pu rfl (fun _ => rd_field fo_syntax_printer_0 (ev_t rfl)) ?_
  refine sr_call rfl (rc_call go_strings_Builder_WriteByte ev_f (args_cons (ev_t rfl) (args_cons ev_c (args_nil))) rfl) (prn_byte 10 hP (by omega)) ?_
  rintro v5 w5 ⟨hP, g5⟩
  refine ⟨fun h => absurd h (by decide), ?_⟩
  have g := g.trans g5
  refine sr_sub [(0, _, _)] (sub_cons rfl (sub_nil _)) ?_
  refine sr_nil (hK1 _ _ ?_)
  refine sc_seq fun K2 hK2 => ?_
  refine sc_text [3, 3, 3, 0, 3] ?_
  obtain ⟨p1, a1, q1, hB1, hB2⟩ := hP.bld
  refine sr_pu rfl (fun _ => rd_move (ev_t rfl)) ?_
  refine sr_pu rfl (fun _ => rd_nil (ev_t rfl)) ?_
  refine sr_pu rfl (fun _ => rd_field fo_syntax_printer_1 (ev_t rfl)) ?_
  refine sr_rd rfl (rd_load one_int (ev_t rfl) (fun _ => hB1.B.at_ rfl)) ?_
  refine sr_pu rfl (fun _ => rd_move ev_c) ?_
  refine sr_sub [(0, _, _), (9, _, _), (10, _, _)] (sub_cons rfl (sub_cons rfl (sub_cons rfl (sub_nil _)))) ?_
  refine sr_nil (hK2 _ _ ?_)
  refine sc_block ?_
  refine sc_loop2 (fun (i : Nat) u1 => (i ≤ k ∧ Prn n0 b (l ++ [10] ++ tabsL i) k u1) ∧ PF n0 b w5 u1) [(0, True, _), (9, True, _)] (fun (i : Nat) => [(10, True, .int .i64 i)]) (fun (i : Nat) => k - i) (0) ⟨⟨Nat.zero_le _, by simpa [tabsL] using hP⟩, PF.refl _ _ _⟩ (sub_cons rfl (sub_cons rfl (sub_cons rfl (sub_nil _)))) ?_
  rintro i u1 ⟨hI1, gl1⟩
  have g := g.trans gl1
  obtain ⟨hi, hP⟩ := hI1
  refine sc_seq fun K3 hK3 => ?_
  refine sc_text [3] ?_
  refine sr_pu rfl (fun _ => rd_lt (ev_t rfl) (ev_t rfl)) ?_
  refine sr_nil (hK3 _ _ ?_)
  refine sc_sub [(0, _, _), (9, _, _), (10, _, _), (11, _, _)] (sub_cons rfl (sub_cons rfl (sub_cons rfl (sub_cons rfl (sub_nil _))))) ?_
  refine sc_seq fun K4 hK4 => ?_
  refine sc_cond (ev_t rfl) (fun h1 => ?_) (fun h1 => ?_)
  · replace h1 : i < k := by simp only [decide_eq_true_eq] at h1; omega
    refine sc_skip (hK4 _ _ ?_)
    refine sc_sub [(0, _, _), (9, _, _), (10, _, _)] (sub_cons rfl (sub_cons rfl (sub_cons rfl (sub_nil _)))) ?_
    refine sc_seq fun K5 hK5 => ?_
    refine sc_block ?_
    refine sc_text [3, 3, 3, 2] ?_
    refine sr_pu rfl (fun _ => rd_move (ev_t rfl)) ?_
    refine sr_pu rfl (fun _ => rd_nil (ev_t rfl)) ?_
    refine sr_pu rfl (fun _ => rd_field fo_syntax_printer_0 (ev_t rfl)) ?_
    refine sr_call rfl (rc_call go_strings_Builder_WriteByte ev_f (args_cons (ev_t rfl) (args_cons ev_c (args_nil))) rfl) (prn_byte 9 hP (by simp only [List.length_append, tabsL, List.length_replicate, List.length_cons, List.length_nil]; omega)) ?_
    rintro v15 w15 ⟨hP, g15⟩
    refine ⟨fun h => absurd h (by decide), ?_⟩
    have g := g.trans g15
    try have gl1 := gl1.trans g15
    refine sr_sub [(0, _, _), (9, _, _), (10, _, _)] (sub_cons rfl (sub_cons rfl (sub_cons rfl (sub_nil _)))) ?_
    refine sr_nil (hK5 _ _ ?_)
    refine sc_text [3, 3] ?_
    refine sr_pu rfl (fun _ => rd_add (ev_t rfl) ev_c (fun _ => by omega)) ?_
    refine sr_pu rfl (fun _ => rd_move (ev_t rfl)) ?_
    refine sr_sub [(10, _, _), (0, _, _), (9, _, _)] (sub_cons rfl (sub_cons rfl (sub_cons rfl (sub_nil _)))) ?_
    refine sr_nil (fun a ha => ?_)
    refine ⟨i + 1, ha, ⟨⟨h1, ?_⟩, gl1⟩, by omega⟩
    rw [tabsL, List.replicate_succ', ← List.append_assoc]; exact hP
  replace h1 : i = k := by simp only [decide_eq_false_iff_not] at h1; omega
  refine sc_exit rfl (t_end0 rfl ?_)
  refine ⟨rfl, ?_, g⟩
  rw [h1] at hP; rw [← List.append_assoc]; exact hP
theorem typ_ok {n0 b : Nat} {l : List UInt8} {k : Nat} {w : World} (t : Nd) (v : Value) (hP : Prn n0 b l k w) (ht : t.text ≠ []) (hlen : l.length + (typeX t).length < 100000000) (hv : ∃ p c, v = .slice p t.kids.length c) : Ret PP fn_syntax_printer_typ #[.pointer (some ⟨b, 0, none⟩), ndV t v] w (Wr n0 b l (typeX t) k w) := by
  have g := PF.refl n0 b w
  have hbn := hP.ge
  obtain ⟨p, c, rfl⟩ := hv
  refine ret_of_sc (m := 32) func_syntax_printer_typ rfl rfl [(0, True, _), (1, True, _)] (sub_cons rfl (sub_cons rfl (sub_nil _))) ?_
  refine sc_seq fun K1 hK1 => ?_
  refine sc_text [1] ?_
  refine sr_box rfl (ev_t rfl) rfl ?_
  intro b3 w3 N3
  have l3 := newge N3 g.size
  have g := g.trans (PF.of_g (N3.g))
  have hP := hP.grow (N3.g)
  have B3 := N3.blk
  refine sr_sub [(0, _, _), (3, _, _)] (sub_cons rfl (sub_cons rfl (sub_nil _))) ?_
  refine sr_nil (hK1 _ _ ?_)
  refine sc_block ?_
  refine sc_seq fun K2 hK2 => ?_
  refine sc_text [3, 0, 3, 3] ?_
  refine sr_pu rfl (fun _ => rd_field fo_api_Node_0 (ev_t rfl)) ?_
  refine sr_rd rfl (rd_load one_int (ev_t rfl) (fun _ => B3.at_ rfl)) ?_
  refine sr_pu rfl (fun _ => rd_eq (ev_t rfl) ev_c) ?_
  refine sr_pu rfl (fun _ => rd_assign (ev_t rfl)) ?_
  refine sr_sub [(0, _, _), (3, _, _), (9, _, _)] (sub_cons rfl (sub_cons rfl (sub_cons rfl (sub_nil _)))) ?_
  refine sr_nil (hK2 _ _ ?_)
  refine sc_cond (ev_t rfl) (fun h1 => ?_) (fun h1 => ?_)
  · have e : typeX t = [42] ++ t.text := by unfold typeX; rw [h1]; rfl
    rw [e] at hlen
    refine sc_text [3, 3, 0, 1, 2] ?_
    refine sr_pu rfl (fun _ => rd_move (ev_t rfl)) ?_
    refine sr_pu rfl (fun _ => rd_field fo_api_Node_1 (ev_t rfl)) ?_
    refine sr_rd rfl (rd_load one_string (ev_t rfl) (fun _ => B3.at_ rfl)) ?_
    refine sr_buildSlice [_, _] rfl el_sl_string ze_string (parts_cons ev_c (parts_cons (ev_t rfl) (parts_nil))) rfl rfl ?_
    intro b16 w16 N16
    have x16_3 := N16.ne B3
    have l16 := newge N16 g.size
    have g := g.trans (PF.of_g (N16.g))
    replace B3 := B3.grow (N16.g)
    have hP := hP.grow (N16.g)
    have B16 := N16.blk
    refine sr_call rfl (rc_call go_syntax_printer_write ev_f (args_cons (ev_t rfl) (args_cons (ev_t rfl) (args_nil))) rfl) (write_ok [[42], t.text] hP B16 (by omega) (by first | omega | (simp only [List.length_append, List.length_cons, List.length_nil, List.flatten_cons, List.flatten_nil, List.append_nil, tabsL, List.length_replicate]; omega) | (simp at hlen ⊢ <;> omega)) (by first | rfl | (simp [ht]; done) | (simpa using ht)) (Nat.le_of_ble_eq_true rfl)) ?_
    rintro v17 w17 ⟨rfl, hP, g17⟩
    refine ⟨fun h => absurd h (by decide), ?_⟩
    have g := g.trans g17
    replace B3 := B3.pf g17 rfl (by omega)
    replace B16 := B16.pf g17 rfl (by omega)
    refine sr_sub [] (sub_nil _) ?_
    refine sr_nil (t_end0 rfl ?_)
    refine ⟨rfl, ?_, g⟩
    rw [e]; simpa using hP
  (try simp only [bsimp] at h1)
  refine sc_seq fun K3 hK3 => ?_
  refine sc_text [3, 0, 3, 3] ?_
  refine sr_pu rfl (fun _ => rd_field fo_api_Node_1 (ev_t rfl)) ?_
  refine sr_rd rfl (rd_load one_string (ev_t rfl) (fun _ => B3.at_ rfl)) ?_
  refine sr_pu rfl (fun _ => rd_seq (ev_t rfl) ev_c) ?_
  refine sr_pu rfl (fun _ => rd_assign (ev_t rfl)) ?_
  refine sr_sub [(0, _, _), (3, _, _), (18, _, _)] (sub_cons rfl (sub_cons rfl (sub_cons rfl (sub_nil _)))) ?_
  refine sr_nil (hK3 _ _ ?_)
  refine sc_cond (ev_t rfl) (fun h2 => ?_) (fun h2 => ?_)
  · have e : typeX t = [99, 104, 97, 110, 32, 105, 110, 116] := by unfold typeX; rw [h1, h2]; rfl
    rw [e] at hlen
    refine sc_text [3, 1, 2] ?_
    refine sr_pu rfl (fun _ => rd_move (ev_t rfl)) ?_
    refine sr_buildSlice [_] rfl el_sl_string ze_string (parts_cons ev_c (parts_nil)) rfl rfl ?_
    intro b23 w23 N23
    have x23_3 := N23.ne B3
    have l23 := newge N23 g.size
    have g := g.trans (PF.of_g (N23.g))
    replace B3 := B3.grow (N23.g)
    have hP := hP.grow (N23.g)
    have B23 := N23.blk
    refine sr_call rfl (rc_call go_syntax_printer_write ev_f (args_cons (ev_t rfl) (args_cons (ev_t rfl) (args_nil))) rfl) (write_ok [[99, 104, 97, 110, 32, 105, 110, 116]] hP B23 (by omega) (by first | omega | (simp only [List.length_append, List.length_cons, List.length_nil, List.flatten_cons, List.flatten_nil, List.append_nil, tabsL, List.length_replicate]; omega) | (simp at hlen ⊢ <;> omega)) (by first | rfl | (simp [ht]; done) | (simpa using ht)) (Nat.le_of_ble_eq_true rfl)) ?_
    rintro v24 w24 ⟨rfl, hP, g24⟩
    refine ⟨fun h => absurd h (by decide), ?_⟩
    have g := g.trans g24
    replace B3 := B3.pf g24 rfl (by omega)
    replace B23 := B23.pf g24 rfl (by omega)
    refine sr_sub [] (sub_nil _) ?_
    refine sr_nil (t_end0 rfl ?_)
    refine ⟨rfl, ?_, g⟩
    rw [e]; simpa using hP
  (try simp only [bsimp] at h2)
  refine sc_seq fun K4 hK4 => ?_
  refine sc_text [3, 0, 3, 3] ?_
  refine sr_pu rfl (fun _ => rd_field fo_api_Node_1 (ev_t rfl)) ?_
  refine sr_rd rfl (rd_load one_string (ev_t rfl) (fun _ => B3.at_ rfl)) ?_
  refine sr_pu rfl (fun _ => rd_seq (ev_t rfl) ev_c) ?_
  refine sr_pu rfl (fun _ => rd_assign (ev_t rfl)) ?_
  refine sr_sub [(0, _, _), (3, _, _), (25, _, _)] (sub_cons rfl (sub_cons rfl (sub_cons rfl (sub_nil _)))) ?_
  refine sr_nil (hK4 _ _ ?_)
  refine sc_cond (ev_t rfl) (fun h3 => ?_) (fun h3 => ?_)
  · have e : typeX t = [102, 117, 110, 99, 40, 41] := by unfold typeX; rw [h1, h2, h3]; rfl
    rw [e] at hlen
    refine sc_text [3, 1, 2] ?_
    refine sr_pu rfl (fun _ => rd_move (ev_t rfl)) ?_
    refine sr_buildSlice [_] rfl el_sl_string ze_string (parts_cons ev_c (parts_nil)) rfl rfl ?_
    intro b30 w30 N30
    have x30_3 := N30.ne B3
    have l30 := newge N30 g.size
    have g := g.trans (PF.of_g (N30.g))
    replace B3 := B3.grow (N30.g)
    have hP := hP.grow (N30.g)
    have B30 := N30.blk
    refine sr_call rfl (rc_call go_syntax_printer_write ev_f (args_cons (ev_t rfl) (args_cons (ev_t rfl) (args_nil))) rfl) (write_ok [[102, 117, 110, 99, 40, 41]] hP B30 (by omega) (by first | omega | (simp only [List.length_append, List.length_cons, List.length_nil, List.flatten_cons, List.flatten_nil, List.append_nil, tabsL, List.length_replicate]; omega) | (simp at hlen ⊢ <;> omega)) (by first | rfl | (simp [ht]; done) | (simpa using ht)) (Nat.le_of_ble_eq_true rfl)) ?_
    rintro v31 w31 ⟨rfl, hP, g31⟩
    refine ⟨fun h => absurd h (by decide), ?_⟩
    have g := g.trans g31
    replace B3 := B3.pf g31 rfl (by omega)
    replace B30 := B30.pf g31 rfl (by omega)
    refine sr_sub [] (sub_nil _) ?_
    refine sr_nil (t_end0 rfl ?_)
    refine ⟨rfl, ?_, g⟩
    rw [e]; simpa using hP
  have e : typeX t = t.text := by unfold typeX; rw [h1, h2, h3]; rfl
  rw [e] at hlen
  refine sc_text [3, 3, 0, 1, 2] ?_
  refine sr_pu rfl (fun _ => rd_move (ev_t rfl)) ?_
  refine sr_pu rfl (fun _ => rd_field fo_api_Node_1 (ev_t rfl)) ?_
  refine sr_rd rfl (rd_load one_string (ev_t rfl) (fun _ => B3.at_ rfl)) ?_
  refine sr_buildSlice [_] rfl el_sl_string ze_string (parts_cons (ev_t rfl) (parts_nil)) rfl rfl ?_
  intro b7 w7 N7
  have x7_3 := N7.ne B3
  have l7 := newge N7 g.size
  have g := g.trans (PF.of_g (N7.g))
  replace B3 := B3.grow (N7.g)
  have hP := hP.grow (N7.g)
  have B7 := N7.blk
  refine sr_call rfl (rc_call go_syntax_printer_write ev_f (args_cons (ev_t rfl) (args_cons (ev_t rfl) (args_nil))) rfl) (write_ok [t.text] hP B7 (by omega) (by first | omega | (simp only [List.length_append, List.length_cons, List.length_nil, List.flatten_cons, List.flatten_nil, List.append_nil, tabsL, List.length_replicate]; omega) | (simp at hlen ⊢ <;> omega)) (by first | rfl | (simp [ht]; done) | (simpa using ht)) (Nat.le_of_ble_eq_true rfl)) ?_
  rintro v8 w8 ⟨rfl, hP, g8⟩
  refine ⟨fun h => absurd h (by decide), ?_⟩
  have g := g.trans g8
  replace B3 := B3.pf g8 rfl (by omega)
  replace B7 := B7.pf g8 rfl (by omega)
  refine sr_sub [] (sub_nil _) ?_
  refine sr_nil (t_end0 rfl ?_)
  refine ⟨rfl, ?_, g⟩
  rw [e]; simpa using hP
end Go.Rk
namespace Go.Rk
open Go Go.RowKit
set_option linter.unusedVariables false
/-- A contract of a method that prints a tree. -/
def PrOk (f : Nat) (tx : Nd → Nat → List UInt8) (t : Nd) : Prop := ∀ (p : Option Addr) (c : Nat) (D : Nat → Prop) (n0 b : Nat) (l : List UInt8) (k : Nat) (w : World), Kd w D t.kids (.slice p t.kids.length c) → (∀ x, D x → x < n0) → Prn n0 b l k w →
  l.length + (tx t k).length < 100000000 → k + count t ≤ 1000000 → Ret PP f #[.pointer (some ⟨b, 0, none⟩), ndV t (.slice p t.kids.length c)] w (Wr n0 b l (tx t k) k w)
structure POk (t : Nd) : Prop where
  ex : exprB t = true → okNd t → PrOk fn_syntax_printer_expr exT t
  st : pstB t = true → okNd t → PrOk fn_syntax_printer_stmt pst t
/-- A store elsewhere leaves a tree alone. -/
theorem Kd.st {n0 : Nat} {w w' : World} {D : Nat → Prop} {ks : List Nd} {v : Value} {j : Nat} (h : Kd w D ks v) (hg : w.grownBy w' (some j)) (hD : ∀ x, D x → x < n0) (hj : n0 ≤ j) : Kd w' D ks v :=
  h.keep hg fun b hb _ e => by injection e with e; have := hD b hb; omega
def PBel (t : Nd) : Prop := ∀ k, count k < count t → POk k
theorem PBel.kid {t : Nd} (ih : PBel t) {i : Nat} (h : i < t.kids.length) : POk (kidAt t i) := ih _ (count_kidAt h)
theorem td_call0 {P : Program} {n : Nat} {σ : List Ent} {fn : Func} {R : Value → World → Prop} {Rp : List PanicEntry → World → Prop} {ds : List Deferred} {w : World} {f : Nat} {args : Array Value} {R' : Value → World → Prop} (hgo : goFn P f = true) (hC : RetB P f args w R') (h : ∀ v w', R' v w' → ∀ a, Kn n σ a → TD P fn R Rp ds a w') : ∀ a, Kn n σ a → TD P fn R Rp (fnD f #[] args :: ds) a w :=
  td_call hgo (by rw [Array.append_empty]; exact hC) h
theorem inner_ok {t : Nd} (ex : PrOk fn_syntax_printer_expr exT t) (ks : List Int) (b2 c2 : Nat) {p : Option Addr} {c : Nat} {D : Nat → Prop} {n0 b : Nat} {l : List UInt8} {k : Nat} {w : World} (hk0 : Kd w D t.kids (.slice p t.kids.length c)) (hD : ∀ x, D x → x < n0) (hP : Prn n0 b l k w)
    (hR : Blk w b2 ty_int (ks.map (Value.int .i64))) (hks : ks.length ≤ 1000) (hlen : l.length + (parX (memK ks t.kind) (exT t k)).length < 100000000) (hc : k + count t ≤ 1000000) :
    Ret PP fn_syntax_printer_inner #[.pointer (some ⟨b, 0, none⟩), ndV t (.slice p t.kids.length c), .slice (some ⟨b2, 0, none⟩) ks.length c2] w (Wr n0 b l (parX (memK ks t.kind) (exT t k)) k w) := by
  have g := PF.refl n0 b w
  have hbn := hP.ge
  refine ret_of_scd (m := 19) func_syntax_printer_inner rfl rfl [(0, True, _), (1, True, _), (2, True, _)] (sub_cons rfl (sub_cons rfl (sub_cons rfl (sub_nil _)))) ?_
  refine scd_seq fun K1 hK1 => ?_
  refine scd_text [1] ?_
  refine sr_box rfl (ev_t rfl) rfl ?_
  intro b4 w4 N4
  have l4 := newge N4 g.size
  have g := g.trans (PF.of_g (N4.g))
  have hP := hP.grow (N4.g)
  have hk0 := hk0.grow (N4.g)
  try have hR := hR.grow (N4.g)
  have B4 := N4.blk
  refine sr_sub [(0, _, _), (2, _, _), (4, _, _)] (sub_cons rfl (sub_cons rfl (sub_cons rfl (sub_nil _)))) ?_
  refine sr_nil (hK1 _ _ _ ?_)
  refine scd_seq fun K2 hK2 => ?_
  refine scd_seq fun K3 hK3 => ?_
  skip
  refine scd_draw [3, 1, 3, 0, 1] [true, true, false, false, true] [0, 1, 0, 4, 15] mix (by kernel_rfl) ?_
  have g := g.trans (PF.of_g (G.drew _))
  replace B4 := B4.grow (G.drew _)
  have hP := hP.grow (G.drew _)
  have hk0 := hk0.grow (G.drew _)
  try have hR := hR.grow (G.drew _)
  have C4 := B4
  refine sr_pu rfl (fun _ => rd_move (ev_t rfl)) ?_
  refine sr_call rfl (rc_call go_syntax_among ev_f (args_cons (ev_t rfl) (args_nil)) rfl) (among_ok ks _ _ _ _ hR.row hks) ?_
  rintro v7 w7 ⟨hA7, k7⟩
  refine ⟨fun _ => k7, ?_⟩
  obtain ⟨f7, fs7, cs7, rfl, hgo7, hf7⟩ := hA7
  have g := g.trans (PF.of_g k7)
  have hP := hP.grow k7
  have hk0 := hk0.grow k7
  replace B4 := B4.grow k7
  have gm7 := G.refl w7
  refine sr_pu rfl (fun _ => rd_field fo_api_Node_0 (ev_t rfl)) ?_
  refine sr_rd0 rfl (rd_load one_int (ev_t rfl) (fun _ => C4.at_ rfl)) ?_
  refine sr_pure rfl (rc_call hgo7 (ev_t rfl) (args_cons (ev_t rfl) (args_nil)) rfl) (hf7 t.kind _ gm7) (fun w10 g10 => ?_)
  have g := g.trans (PF.of_g (g10))
  replace B4 := B4.grow (g10)
  have hP := hP.grow (g10)
  have hk0 := hk0.grow (g10)
  try have hR := hR.grow (g10)
  refine sr_sub [(0, _, _), (4, _, _), (10, _, _)] (sub_cons rfl (sub_cons rfl (sub_cons rfl (sub_nil _)))) ?_
  refine sr_nil (hK3 _ _ _ ?_)
  refine scd_cond (ev_t rfl) (fun h1 => ?_) (fun h1 => ?_)
  · have e : parX (memK ks t.kind) (exT t k) = ([40] ++ exT t k) ++ [41] := by rw [h1]; rfl
    rw [e] at hlen
    refine scd_seq fun K4 hK4 => ?_
    refine scd_text [3, 1, 2] ?_
    refine sr_pu rfl (fun _ => rd_move (ev_t rfl)) ?_
    refine sr_buildSlice [_] rfl el_sl_string ze_string (parts_cons ev_c (parts_nil)) rfl rfl ?_
    intro b12 w12 N12
    have x12_4 := N12.ne B4
    have l12 := newge N12 g.size
    have g := g.trans (PF.of_g (N12.g))
    replace B4 := B4.grow (N12.g)
    have hP := hP.grow (N12.g)
    have hk0 := hk0.grow (N12.g)
    try have hR := hR.grow (N12.g)
    have B12 := N12.blk
    refine sr_call rfl (rc_call go_syntax_printer_write ev_f (args_cons (ev_t rfl) (args_cons (ev_t rfl) (args_nil))) rfl) (write_ok [[40]] hP B12 (by omega) (by first | omega | (simp only [List.length_append, List.length_cons, List.length_nil, List.flatten_cons, List.flatten_nil, List.append_nil, tabsL, List.length_replicate]; omega) | (simp at hlen ⊢ <;> omega)) (by first | rfl | (simp [ht]; done) | (simpa using ht)) (Nat.le_of_ble_eq_true rfl)) ?_
    rintro v13 w13 ⟨rfl, hP, g13⟩
    refine ⟨fun h => absurd h (by decide), ?_⟩
    have g := g.trans g13
    replace B4 := B4.pf g13 rfl (by omega)
    replace B12 := B12.pf g13 rfl (by omega)
    have hk0 := hk0.pf g13 hD
    refine sr_sub [(0, _, _), (4, _, _)] (sub_cons rfl (sub_cons rfl (sub_nil _))) ?_
    refine sr_nil (hK4 _ _ _ ?_)
    refine scd_text_defer (k := 2) [3, 1, 2] rfl rfl rfl ?_
    refine sr_pu rfl (fun _ => rd_move (ev_t rfl)) ?_
    refine sr_buildSlice [_] rfl el_sl_string ze_string (parts_cons ev_c (parts_nil)) rfl rfl ?_
    intro b15 w15 N15
    have x15_4 := N15.ne B4
    have x15_12 := N15.ne B12
    have l15 := newge N15 g.size
    have g := g.trans (PF.of_g (N15.g))
    replace B4 := B4.grow (N15.g)
    replace B12 := B12.grow (N15.g)
    have hP := hP.grow (N15.g)
    have hk0 := hk0.grow (N15.g)
    try have hR := hR.grow (N15.g)
    have B15 := N15.blk
    refine sr_nil (kdef_mk (rdd_call ev_f (args_cons (ev_t rfl) (args_cons (ev_t rfl) (args_nil)))) (hK2 _ _ _ ?_))
    refine scd_sub [(0, _, _), (4, _, _)] (sub_cons rfl (sub_cons rfl (sub_nil _))) ?_
    refine scd_text [3, 0, 2] ?_
    refine sr_pu rfl (fun _ => rd_move (ev_t rfl)) ?_
    refine sr_rd rfl (rd_loads agg_api_Node (ev_t rfl) rfl (fun _ => B4.row)) ?_
    refine sr_call rfl (rc_call go_syntax_printer_expr ev_f (args_cons (ev_t rfl) (args_cons (ev_t rfl) (args_nil))) rfl) (ex p c D n0 b _ k _ hk0 hD hP (by first | omega | (simp at hlen ⊢ <;> omega)) hc) ?_
    rintro v18 w18 ⟨rfl, hP, g18⟩
    refine ⟨fun h => absurd h (by decide), ?_⟩
    have g := g.trans g18
    replace B4 := B4.pf g18 rfl (by omega)
    replace B12 := B12.pf g18 rfl (by omega)
    replace B15 := B15.pf g18 rfl (by omega)
    have hk0 := hk0.pf g18 hD
    refine sr_sub [] (sub_nil _) ?_
    refine sr_nil (?_)
    first
      | (refine td_call0 go_syntax_printer_write (write_b [[41]] b15 0 _ hP B15.row (by omega) (blk_byr B15 rfl) (by simp at hlen ⊢ <;> omega) (by simp) (Nat.le_of_ble_eq_true rfl)) (fun v w' hv => ?_); obtain ⟨rfl, hP, gd⟩ := hv; have g := g.trans gd; refine td_end0 rfl ⟨rfl, ?_, g⟩; rw [e]; simpa using hP)
      | (refine td_end0 rfl ⟨rfl, ?_, g⟩; rw [e]; simpa using hP)
  have e : parX (memK ks t.kind) (exT t k) = exT t k := by rw [h1]; rfl
  rw [e] at hlen
  refine scd_skip (hK2 _ _ _ ?_)
  refine scd_sub [(0, _, _), (4, _, _)] (sub_cons rfl (sub_cons rfl (sub_nil _))) ?_
  refine scd_text [3, 0, 2] ?_
  refine sr_pu rfl (fun _ => rd_move (ev_t rfl)) ?_
  refine sr_rd rfl (rd_loads agg_api_Node (ev_t rfl) rfl (fun _ => B4.row)) ?_
  refine sr_call rfl (rc_call go_syntax_printer_expr ev_f (args_cons (ev_t rfl) (args_cons (ev_t rfl) (args_nil))) rfl) (ex p c D n0 b _ k _ hk0 hD hP (by first | omega | (simp at hlen ⊢ <;> omega)) hc) ?_
  rintro v18 w18 ⟨rfl, hP, g18⟩
  refine ⟨fun h => absurd h (by decide), ?_⟩
  have g := g.trans g18
  replace B4 := B4.pf g18 rfl (by omega)
  have hk0 := hk0.pf g18 hD
  refine sr_sub [] (sub_nil _) ?_
  refine sr_nil (?_)
  first
    | (refine td_call0 go_syntax_printer_write (write_b [[41]] b15 0 _ hP B15.row (by omega) (blk_byr B15 rfl) (by simp at hlen ⊢ <;> omega) (by simp) (Nat.le_of_ble_eq_true rfl)) (fun v w' hv => ?_); obtain ⟨rfl, hP, gd⟩ := hv; have g := g.trans gd; refine td_end0 rfl ⟨rfl, ?_, g⟩; rw [e]; simpa using hP)
    | (refine td_end0 rfl ⟨rfl, ?_, g⟩; rw [e]; simpa using hP)
theorem joinX_snoc (f : Nd → List UInt8) (ks : List Nd) (x : Nd) : joinX ((ks ++ [x]).map f) = joinX (ks.map f) ++ (bif decide ((0 : Int) < ks.length) then [44, 32] else []) ++ f x := by
  cases ks with
  | nil => simp [joinX]
  | cons a r =>
    rw [decide_eq_true (by first | (simp; done) | (simp; omega)), cond_true]
    simp [joinX, List.flatMap_append]
theorem joinX_le (f : Nd → List UInt8) (ks : List Nd) (i : Nat) : (joinX ((ks.take i).map f)).length ≤ (joinX (ks.map f)).length := by
  cases ks with
  | nil => simp
  | cons a r =>
    cases i with
    | zero => simp [joinX]
    | succ i =>
      have h : (((r.take i).map f).flatMap fun u => [44, 32] ++ u).length ≤ ((r.map f).flatMap fun u => [44, 32] ++ u).length := by
        conv => rhs; rw [← List.take_append_drop i r, List.map_append, List.flatMap_append, List.length_append]
        omega
      simp only [List.take_succ_cons, List.map_cons, joinX, List.length_append]
      omega
theorem sum_le (ks : List Nd) {i : Nat} (h : i < ks.length) : count ks[i] ≤ (ks.map count).sum := by
  have := sum_take_le (ks.map count) (i + 1)
  rw [← List.map_take, take_succ_map count ks i h, List.sum_append] at this
  simp at this; omega
theorem list_ok {ks : List Nd} {c : Nat} {p : Option Addr} {D : Nat → Prop} {n0 b : Nat} {l : List UInt8} {k : Nat} {w : World} (hex : ∀ x ∈ ks, PrOk fn_syntax_printer_expr exT x) (hk0 : Kd w D ks (.slice p ks.length c)) (hD : ∀ x, D x → x < n0) (hP : Prn n0 b l k w)
    (hlen : l.length + (joinX (ks.map fun y => exT y k)).length < 100000000) (hc : k + (ks.map count).sum ≤ 1000000) :
    Ret PP fn_syntax_printer_list #[.pointer (some ⟨b, 0, none⟩), .slice p ks.length c] w (Wr n0 b l (joinX (ks.map fun y => exT y k)) k w) := by
  have g := PF.refl n0 b w
  have hbn := hP.ge
  have hls := length_le_sum ks
  refine ret_of_sc (m := 22) func_syntax_printer_list rfl rfl [(0, True, _), (1, True, _)] (sub_cons rfl (sub_cons rfl (sub_nil _))) ?_
  refine sc_seq fun K1 hK1 => ?_
  refine sc_text [3, 3, 3] ?_
  refine sr_pu rfl (fun _ => rd_move (ev_t rfl)) ?_
  refine sr_pu rfl (fun _ => rd_len el_sl_api_Node (ev_t rfl)) ?_
  refine sr_pu rfl (fun _ => rd_move ev_c) ?_
  refine sr_sub [(0, _, _), (6, _, _), (7, _, _), (8, _, _)] (sub_cons rfl (sub_cons rfl (sub_cons rfl (sub_cons rfl (sub_nil _))))) ?_
  refine sr_nil (hK1 _ _ ?_)
  refine sc_block ?_
  refine sc_loop2 (fun (i : Nat) u1 => (i ≤ ks.length ∧ Prn n0 b (l ++ joinX ((ks.take i).map fun y => exT y k)) k u1 ∧ Kd u1 D ks (.slice p ks.length c)) ∧ PF n0 b w u1) [(0, True, _), (6, True, _), (7, True, _)] (fun (i : Nat) => [(8, True, .int .i64 i)]) (fun (i : Nat) => ks.length - i) (0) ⟨⟨Nat.zero_le _, by simpa [joinX] using hP, hk0⟩, PF.refl _ _ _⟩ (sub_cons rfl (sub_cons rfl (sub_cons rfl (sub_cons rfl (sub_nil _))))) ?_
  rintro i u1 ⟨hI1, gl1⟩
  have g := g.trans gl1
  obtain ⟨hi, hP, hk0⟩ := hI1
  refine sc_seq fun K2 hK2 => ?_
  refine sc_text [3] ?_
  refine sr_pu rfl (fun _ => rd_lt (ev_t rfl) (ev_t rfl)) ?_
  refine sr_nil (hK2 _ _ ?_)
  refine sc_sub [(0, _, _), (6, _, _), (7, _, _), (8, _, _), (9, _, _)] (sub_cons rfl (sub_cons rfl (sub_cons rfl (sub_cons rfl (sub_cons rfl (sub_nil _)))))) ?_
  refine sc_seq fun K3 hK3 => ?_
  refine sc_cond (ev_t rfl) (fun h1 => ?_) (fun h1 => ?_)
  · replace h1 : i < ks.length := by simp only [decide_eq_true_eq] at h1; omega
    obtain ⟨_, _, hpe, _, hks⟩ := id hk0
    obtain ⟨b9, o9, rfl, hD9, xs, hR, hX⟩ := hks (by omega)
    injection hpe with hpe _ hce
    subst hpe hce
    obtain ⟨p9, c9, hcell, hkid⟩ := kd_at hR hX h1
    have hjs := joinX_snoc (fun y => exT y k) (ks.take i) ks[i]
    rw [← take_step h1, show (ks.take i).length = i by rw [List.length_take]; omega] at hjs
    have hjl := joinX_le (fun y => exT y k) ks (i + 1)
    rw [hjs] at hjl
    have hcs := sum_le ks h1
    refine sc_skip (hK3 _ _ ?_)
    refine sc_sub [(0, _, _), (6, _, _), (7, _, _), (8, _, _)] (sub_cons rfl (sub_cons rfl (sub_cons rfl (sub_cons rfl (sub_nil _))))) ?_
    refine sc_seq fun K4 hK4 => ?_
    refine sc_block ?_
    refine sc_seq fun K5 hK5 => ?_
    refine sc_text [3, 3, 0, 1, 3, 2] ?_
    refine sr_pu rfl (fun _ => rd_move (ev_t rfl)) ?_
    refine sr_pu rfl (fun _ => rd_idx el_sl_api_Node (ev_t rfl) (ev_t rfl) (fun _ => by omega)) ?_
    refine sr_rd rfl (rd_loads agg_api_Node (ev_t rfl) rfl (fun _ => hcell)) ?_
    refine sr_alloc rfl ze_api_Node rfl ?_
    intro b5 w5 N5
    have l5 := newge N5 g.size
    try have l5_gl1 := newge N5 gl1.size
    have g := g.trans (PF.of_g (N5.g))
    try have gl1 := gl1.trans (PF.of_g (N5.g))
    have hP := hP.grow (N5.g)
    have hk0 := hk0.grow (N5.g)
    try have hkid := hkid.grow (N5.g)
    have B5 := N5.blk
    refine sr_pu rfl (fun _ => rd_assign (ev_t rfl)) ?_
    refine sr_store_all rfl sz_api_Node (ev_t rfl) (ev_t rfl) rfl rfl B5 rfl rfl ?_
    intro wS1 hgS1 hzS1
    have C5 := B5
    clear B5
    intro B5
    have g := pf_only g hgS1 (by omega)
    first | replace gl1 := pf_only gl1 hgS1 (by omega) | clear gl1 | skip
    have hP := hP.keep hgS1 C5 rfl (by omega) (by omega)
    have hk0 := hk0.st hgS1 hD (by omega)
    have hkid := hkid.st hgS1 hD (by omega)
    refine sr_sub [(0, _, _), (4, _, _), (5, _, _), (6, _, _), (7, _, _), (8, _, _)] (sub_cons rfl (sub_cons rfl (sub_cons rfl (sub_cons rfl (sub_cons rfl (sub_cons rfl (sub_nil _))))))) ?_
    refine sr_nil (hK5 _ _ ?_)
    refine sc_seq fun K6 hK6 => ?_
    refine sc_seq fun K7 hK7 => ?_
    refine sc_text [3, 3] ?_
    refine sr_pu rfl (fun _ => rd_move (ev_t rfl)) ?_
    refine sr_pu rfl (fun _ => rd_gt (ev_t rfl) ev_c) ?_
    refine sr_sub [(0, _, _), (5, _, _), (6, _, _), (7, _, _), (8, _, _), (14, _, _)] (sub_cons rfl (sub_cons rfl (sub_cons rfl (sub_cons rfl (sub_cons rfl (sub_cons rfl (sub_nil _))))))) ?_
    refine sr_nil (hK7 _ _ ?_)
    refine sc_cond (ev_t rfl) (fun h2 => ?_) (fun h2 => ?_)
    · rw [h2, cond_true] at hjs hjl
      simp only [List.length_append, List.length_cons, List.length_nil] at hjl
      refine sc_text [3, 1, 2] ?_
      refine sr_pu rfl (fun _ => rd_move (ev_t rfl)) ?_
      refine sr_buildSlice [_] rfl el_sl_string ze_string (parts_cons ev_c (parts_nil)) rfl rfl ?_
      intro b16 w16 N16
      have x16_5 := N16.ne B5
      have l16 := newge N16 g.size
      try have l16_gl1 := newge N16 gl1.size
      have g := g.trans (PF.of_g (N16.g))
      try have gl1 := gl1.trans (PF.of_g (N16.g))
      replace B5 := B5.grow (N16.g)
      have hP := hP.grow (N16.g)
      have hk0 := hk0.grow (N16.g)
      try have hkid := hkid.grow (N16.g)
      have B16 := N16.blk
      refine sr_call rfl (rc_call go_syntax_printer_write ev_f (args_cons (ev_t rfl) (args_cons (ev_t rfl) (args_nil))) rfl) (write_ok [[44, 32]] hP B16 (by omega) (by first | omega | (simp only [List.length_append, List.length_cons, List.length_nil, List.flatten_cons, List.flatten_nil, List.append_nil, tabsL, List.length_replicate]; omega) | (simp at hlen ⊢ <;> omega)) (by first | rfl | (simp [ht]; done) | (simpa using ht)) (Nat.le_of_ble_eq_true rfl)) ?_
      rintro v17 w17 ⟨rfl, hP, g17⟩
      refine ⟨fun h => absurd h (by decide), ?_⟩
      have g := g.trans g17
      try have gl1 := gl1.trans g17
      replace B5 := B5.pf g17 rfl (by omega)
      replace B16 := B16.pf g17 rfl (by omega)
      have hk0 := hk0.pf g17 hD
      try have hkid := hkid.pf g17 hD
      refine sr_sub [(0, _, _), (5, _, _), (6, _, _), (7, _, _), (8, _, _)] (sub_cons rfl (sub_cons rfl (sub_cons rfl (sub_cons rfl (sub_cons rfl (sub_nil _)))))) ?_
      refine sr_nil (hK6 _ _ ?_)
      refine sc_text [3, 0, 2] ?_
      refine sr_pu rfl (fun _ => rd_move (ev_t rfl)) ?_
      refine sr_rd rfl (rd_loads agg_api_Node (ev_t rfl) rfl (fun _ => B5.row)) ?_
      refine sr_call rfl (rc_call go_syntax_printer_expr ev_f (args_cons (ev_t rfl) (args_cons (ev_t rfl) (args_nil))) rfl) (hex ks[i] (List.getElem_mem h1) _ _ D n0 b _ k _ hkid hD hP (by simp only [List.length_append, List.length_cons, List.length_nil, List.flatten_cons, List.flatten_nil, List.append_nil]; omega) (by omega)) ?_
      rintro v20 w20 ⟨rfl, hP, g20⟩
      refine ⟨fun h => absurd h (by decide), ?_⟩
      have g := g.trans g20
      try have gl1 := gl1.trans g20
      replace B5 := B5.pf g20 rfl (by omega)
      replace B16 := B16.pf g20 rfl (by omega)
      have hk0 := hk0.pf g20 hD
      try have hkid := hkid.pf g20 hD
      refine sr_sub [(0, _, _), (6, _, _), (7, _, _), (8, _, _)] (sub_cons rfl (sub_cons rfl (sub_cons rfl (sub_cons rfl (sub_nil _))))) ?_
      refine sr_nil (hK4 _ _ ?_)
      refine sc_text [3, 3] ?_
      refine sr_pu rfl (fun _ => rd_add (ev_t rfl) ev_c (fun _ => by omega)) ?_
      refine sr_pu rfl (fun _ => rd_move (ev_t rfl)) ?_
      refine sr_sub [(8, _, _), (0, _, _), (6, _, _), (7, _, _)] (sub_cons rfl (sub_cons rfl (sub_cons rfl (sub_cons rfl (sub_nil _))))) ?_
      refine sr_nil (fun a ha => ?_)
      refine ⟨i + 1, ha, ⟨⟨h1, ?_, hk0⟩, gl1⟩, by omega⟩
      rw [hjs]; simpa only [List.append_assoc, List.flatten_cons, List.flatten_nil, List.append_nil] using hP
    rw [h2, cond_false, List.append_nil] at hjs hjl
    simp only [List.length_append] at hjl
    refine sc_skip (hK6 _ _ ?_)
    refine sc_sub [(0, _, _), (5, _, _), (6, _, _), (7, _, _), (8, _, _)] (sub_cons rfl (sub_cons rfl (sub_cons rfl (sub_cons rfl (sub_cons rfl (sub_nil _)))))) ?_
    refine sc_text [3, 0, 2] ?_
    refine sr_pu rfl (fun _ => rd_move (ev_t rfl)) ?_
    refine sr_rd rfl (rd_loads agg_api_Node (ev_t rfl) rfl (fun _ => B5.row)) ?_
    refine sr_call rfl (rc_call go_syntax_printer_expr ev_f (args_cons (ev_t rfl) (args_cons (ev_t rfl) (args_nil))) rfl) (hex ks[i] (List.getElem_mem h1) _ _ D n0 b _ k _ hkid hD hP (by simp only [List.length_append, List.length_cons, List.length_nil, List.flatten_cons, List.flatten_nil, List.append_nil]; omega) (by omega)) ?_
    rintro v20 w20 ⟨rfl, hP, g20⟩
    refine ⟨fun h => absurd h (by decide), ?_⟩
    have g := g.trans g20
    try have gl1 := gl1.trans g20
    replace B5 := B5.pf g20 rfl (by omega)
    have hk0 := hk0.pf g20 hD
    try have hkid := hkid.pf g20 hD
    refine sr_sub [(0, _, _), (6, _, _), (7, _, _), (8, _, _)] (sub_cons rfl (sub_cons rfl (sub_cons rfl (sub_cons rfl (sub_nil _))))) ?_
    refine sr_nil (hK4 _ _ ?_)
    refine sc_text [3, 3] ?_
    refine sr_pu rfl (fun _ => rd_add (ev_t rfl) ev_c (fun _ => by omega)) ?_
    refine sr_pu rfl (fun _ => rd_move (ev_t rfl)) ?_
    refine sr_sub [(8, _, _), (0, _, _), (6, _, _), (7, _, _)] (sub_cons rfl (sub_cons rfl (sub_cons rfl (sub_cons rfl (sub_nil _))))) ?_
    refine sr_nil (fun a ha => ?_)
    refine ⟨i + 1, ha, ⟨⟨h1, ?_, hk0⟩, gl1⟩, by omega⟩
    rw [hjs]; simpa only [List.append_assoc, List.flatten_cons, List.flatten_nil, List.append_nil] using hP
  replace h1 : i = ks.length := by simp only [decide_eq_false_iff_not] at h1; omega
  refine sc_exit rfl (t_end0 rfl ?_)
  refine ⟨rfl, ?_, g⟩
  rw [h1, List.take_length] at hP; exact hP
end Go.Rk
namespace Go.Rk
open Go Go.RowKit
set_option linter.unusedVariables false
theorem itoa_ok {n0 : Nat} {w : World} (n : Int) (h0 : 0 ≤ n) (h1 : n ≤ 9223372036854775807) (hT : LaidP n0 w) : Ret PP fn_strconv_Itoa #[.int .i64 n] w fun v w' => v = Str (digL n.toNat) ∧ G w w' := by
  refine (Go.Proofs.Any.strconv_Itoa laysM171 n (by omega) h1 w hT.here).mono ?_
  rintro e w' ⟨rfl, k, os, rfl⟩
  refine ⟨_, rfl, ?_, Lib.below_grow _ _ (Nat.le_refl _) _ _⟩
  obtain ⟨m, rfl⟩ := Int.eq_ofNat_of_zero_le h0
  rw [Lib.itoa_nonneg, Int.toNat_natCast, digL_dec (by omega)]
@[reducible] def fn_internal_strconv_FormatBool : Nat := 109
theorem go_internal_strconv_FormatBool : goFn PP 109 = true := by kernel_rfl
theorem func_internal_strconv_FormatBool : PP.funcs[109]? = some Go.Proofs.Tryd.f109 := Go.Proofs.Tryd.func109
theorem ifb_ok (c : Bool) (w : World) : Ret PP fn_internal_strconv_FormatBool #[.bool c] w fun v w' => v = Str (bif c then [116, 114, 117, 101] else [102, 97, 108, 115, 101]) ∧ G w w' := by
  have g := G.refl w
  refine ret_of_sc (m := 4) func_internal_strconv_FormatBool rfl rfl [(0, True, _)] (sub_cons rfl (sub_nil _)) ?_
  refine sc_seq fun K1 hK1 => ?_
  refine sc_text [3] ?_
  refine sr_pu rfl (fun _ => rd_assign ev_c) ?_
  refine sr_nil (hK1 _ _ ?_)
  refine sc_seq fun K2 hK2 => ?_
  refine sc_seq fun K3 hK3 => ?_
  refine sc_text [3] ?_
  refine sr_pu rfl (fun _ => rd_move (ev_t rfl)) ?_
  refine sr_sub [(2, _, _), (3, _, _)] (sub_cons rfl (sub_cons rfl (sub_nil _))) ?_
  refine sr_nil (hK3 _ _ ?_)
  refine sc_cond (ev_t rfl) (fun h1 => ?_) (fun h1 => ?_)
  · subst h1
    refine sc_seq fun K4 hK4 => ?_
    refine sc_text [3] ?_
    refine sr_pu rfl (fun _ => rd_assign ev_c) ?_
    refine sr_sub [(2, _, _)] (sub_cons rfl (sub_nil _)) ?_
    refine sr_nil (hK4 _ _ ?_)
    refine sc_ret (t_ret1 rfl rfl ?_)
    exact ⟨rfl, g⟩
  subst h1
  refine sc_skip (hK2 _ _ ?_)
  refine sc_sub [(2, _, _)] (sub_cons rfl (sub_nil _)) ?_
  refine sc_seq fun K5 hK5 => ?_
  refine sc_text [3] ?_
  refine sr_pu rfl (fun _ => rd_assign ev_c) ?_
  refine sr_nil (hK5 _ _ ?_)
  refine sc_ret (t_ret1 rfl rfl ?_)
  exact ⟨rfl, g⟩
theorem fbool_ok (c : Bool) (w : World) : Ret PP fn_strconv_FormatBool #[.bool c] w fun v w' => v = Str (bif c then [116, 114, 117, 101] else [102, 97, 108, 115, 101]) ∧ G w w' := by
  have g := G.refl w
  refine ret_of_sc (m := 5) func_strconv_FormatBool rfl rfl [(0, True, _)] (sub_cons rfl (sub_nil _)) ?_
  refine sc_seq fun K1 hK1 => ?_
  refine sc_text [3] ?_
  refine sr_pu rfl (fun _ => rd_assign ev_c) ?_
  refine sr_nil (hK1 _ _ ?_)
  refine sc_seq fun K2 hK2 => ?_
  refine sc_text [3, 1, 3] ?_
  refine sr_pu rfl (fun _ => rd_move (ev_t rfl)) ?_
  refine sr_call rfl (rc_call go_internal_strconv_FormatBool ev_f (args_cons (ev_t rfl) (args_nil)) rfl) (ifb_ok _ _) ?_
  rintro v4 w4 ⟨rfl, g4⟩
  refine ⟨fun _ => g4, ?_⟩
  have g := g.trans (g4)
  refine sr_pu rfl (fun _ => rd_assign (ev_t rfl)) ?_
  refine sr_sub [(2, _, _)] (sub_cons rfl (sub_nil _)) ?_
  refine sr_nil (hK2 _ _ ?_)
  refine sc_ret (t_ret1 rfl rfl ?_)
  exact ⟨rfl, g⟩
theorem Prn.tabs {n0 b : Nat} {l : List UInt8} {k k' : Nat} {p a : Option Addr} {q : Nat} {w w' : World} (h : Prn n0 b l k w) (hB : Bld n0 b l k p a q w) (ha : l = [] → a = none) (hg : w.grownBy w' (some b)) (hn : Blk w' b ty_syntax_printer [.pointer p, .slice a l.length q, .int .i64 k']) : Prn n0 b l k' w' :=
  ⟨⟨p, a, q, { B := hn, hb := hB.hb, row := own_keep hB.row hg (.inr hB.n1), n1 := hB.n1, hp := hB.hp }, ha⟩, h.tab.on (below_only (Go.RowKit.Below.refl _ _) hg (by have := hB.hb; have := hB.B.lt; omega) (fun k hk => by injection hk with hk; have := hB.hb; omega))⟩
theorem plX_snoc (l : List Nd) (f : Nd → Nat → List UInt8) (k : Nat) {i : Nat} (h : i < l.length) : plX (l.take (i + 1)) f k = plX (l.take i) f k ++ (([10] ++ tabsL k) ++ f l[i] k) := by
  rw [take_step h, plX, List.flatMap_append, plX]; simp
theorem plX_le (l : List Nd) (f : Nd → Nat → List UInt8) (k i : Nat) : (plX (l.take i) f k).length ≤ (plX l f k).length := by
  conv => rhs; rw [plX, ← List.take_append_drop i l, List.flatMap_append, List.length_append]
  exact Nat.le_add_right _ _
theorem lines_ok {ks : List Nd} {c : Nat} {p : Option Addr} {D : Nat → Prop} {n0 b : Nat} {l : List UInt8} {k : Nat} {w : World} (hst : ∀ x ∈ ks, PrOk fn_syntax_printer_stmt pst x) (hk0 : Kd w D ks (.slice p ks.length c)) (hD : ∀ x, D x → x < n0) (hP : Prn n0 b l k w)
    (hlen : l.length + (plX ks pst (k + 1)).length < 100000000) (hc : k + 1 + (ks.map count).sum ≤ 1000000) :
    Ret PP fn_syntax_printer_lines #[.pointer (some ⟨b, 0, none⟩), .slice p ks.length c] w (Wr n0 b l (plX ks pst (k + 1)) k w) := by
  have g := PF.refl n0 b w
  have hbn := hP.ge
  have hls := length_le_sum ks
  refine ret_of_sc (m := 32) func_syntax_printer_lines rfl rfl [(0, True, _), (1, True, _)] (sub_cons rfl (sub_cons rfl (sub_nil _))) ?_
  refine sc_seq fun K1 hK1 => ?_
  refine sc_text [3, 3, 3, 0, 3, 3, 3, 2] ?_
  obtain ⟨p1, a1, q1, hB1, hB2⟩ := hP.bld
  refine sr_pu rfl (fun _ => rd_move (ev_t rfl)) ?_
  refine sr_pu rfl (fun _ => rd_nil (ev_t rfl)) ?_
  refine sr_pu rfl (fun _ => rd_field fo_syntax_printer_1 (ev_t rfl)) ?_
  refine sr_rd rfl (rd_load one_int (ev_t rfl) (fun _ => hB1.B.at_ rfl)) ?_
  refine sr_pu rfl (fun _ => rd_add (ev_t rfl) ev_c (fun _ => by omega)) ?_
  refine sr_pu rfl (fun _ => rd_nil (ev_t rfl)) ?_
  refine sr_pu rfl (fun _ => rd_field fo_syntax_printer_1 (ev_t rfl)) ?_
  refine sr_store_one rfl sz_int (ev_t rfl) (ev_t rfl) rfl hB1.B rfl rfl ?_
  intro wS1 hgS1 hzS1 B62
  have g := pf_b g hgS1 hbn.1
  have hP := hP.tabs (k' := k + 1) hB1 hB2 hgS1 B62
  have hk0 := hk0.st hgS1 hD hbn.1
  refine sr_sub [(0, _, _), (1, _, _)] (sub_cons rfl (sub_cons rfl (sub_nil _))) ?_
  refine sr_nil (hK1 _ _ ?_)
  refine sc_seq fun K2 hK2 => ?_
  refine sc_seq fun K3 hK3 => ?_
  refine sc_text [3, 3, 3] ?_
  refine sr_pu rfl (fun _ => rd_move (ev_t rfl)) ?_
  refine sr_pu rfl (fun _ => rd_len el_sl_api_Node (ev_t rfl)) ?_
  refine sr_pu rfl (fun _ => rd_move ev_c) ?_
  refine sr_sub [(0, _, _), (13, _, _), (14, _, _), (15, _, _)] (sub_cons rfl (sub_cons rfl (sub_cons rfl (sub_cons rfl (sub_nil _))))) ?_
  refine sr_nil (hK3 _ _ ?_)
  refine sc_block ?_
  refine sc_loop2 (fun (i : Nat) u1 => (i ≤ ks.length ∧ Prn n0 b (l ++ plX (ks.take i) pst (k + 1)) (k + 1) u1 ∧ Kd u1 D ks (.slice p ks.length c)) ∧ PF n0 b wS1 u1) [(0, True, _), (13, True, _), (14, True, _)] (fun (i : Nat) => [(15, True, .int .i64 i)]) (fun (i : Nat) => ks.length - i) (0) ⟨⟨Nat.zero_le _, by simpa [plX] using hP, hk0⟩, PF.refl _ _ _⟩ (sub_cons rfl (sub_cons rfl (sub_cons rfl (sub_cons rfl (sub_nil _))))) ?_
  rintro i u1 ⟨hI1, gl1⟩
  have g := g.trans gl1
  obtain ⟨hi, hP, hk0⟩ := hI1
  refine sc_seq fun K4 hK4 => ?_
  refine sc_text [3] ?_
  refine sr_pu rfl (fun _ => rd_lt (ev_t rfl) (ev_t rfl)) ?_
  refine sr_nil (hK4 _ _ ?_)
  refine sc_sub [(0, _, _), (13, _, _), (14, _, _), (15, _, _), (16, _, _)] (sub_cons rfl (sub_cons rfl (sub_cons rfl (sub_cons rfl (sub_cons rfl (sub_nil _)))))) ?_
  refine sc_seq fun K5 hK5 => ?_
  refine sc_cond (ev_t rfl) (fun h1 => ?_) (fun h1 => ?_)
  · replace h1 : i < ks.length := by simp only [decide_eq_true_eq] at h1; omega
    obtain ⟨_, _, hpe, _, hks⟩ := id hk0
    obtain ⟨b9, o9, rfl, hD9, xs, hR, hX⟩ := hks (by omega)
    injection hpe with hpe _ hce
    subst hpe hce
    obtain ⟨p9, c9, hcell, hkid⟩ := kd_at hR hX h1
    have hjs := plX_snoc ks pst (k + 1) h1
    have hjl := plX_le ks pst (k + 1) (i + 1)
    rw [hjs] at hjl
    have hcs := sum_le ks h1
    simp only [List.length_append, List.length_cons, List.length_nil, tabsL, List.length_replicate] at hjl
    refine sc_skip (hK5 _ _ ?_)
    refine sc_sub [(0, _, _), (13, _, _), (14, _, _), (15, _, _)] (sub_cons rfl (sub_cons rfl (sub_cons rfl (sub_cons rfl (sub_nil _))))) ?_
    refine sc_seq fun K6 hK6 => ?_
    refine sc_block ?_
    refine sc_seq fun K7 hK7 => ?_
    refine sc_text [3, 0, 1, 2] ?_
    refine sr_pu rfl (fun _ => rd_idx el_sl_api_Node (ev_t rfl) (ev_t rfl) (fun _ => by omega)) ?_
    refine sr_rd rfl (rd_loads agg_api_Node (ev_t rfl) rfl (fun _ => hcell)) ?_
    refine sr_alloc rfl ze_api_Node rfl ?_
    intro b5 w5 N5
    have l5 := newge N5 g.size
    try have l5_gl1 := newge N5 gl1.size
    have g := g.trans (PF.of_g (N5.g))
    try have gl1 := gl1.trans (PF.of_g (N5.g))
    have hP := hP.grow (N5.g)
    have hk0 := hk0.grow (N5.g)
    try have hkid := hkid.grow (N5.g)
    have B5 := N5.blk
    refine sr_store_all rfl sz_api_Node (ev_t rfl) (ev_t rfl) rfl rfl B5 rfl rfl ?_
    intro wS2 hgS2 hzS2
    have C5 := B5
    clear B5
    intro B5
    have g := pf_only g hgS2 (by omega)
    first | replace gl1 := pf_only gl1 hgS2 (by omega) | clear gl1 | skip
    have hP := hP.keep hgS2 C5 rfl (by omega) (by omega)
    have hk0 := hk0.st hgS2 hD (by omega)
    have hkid := hkid.st hgS2 hD (by omega)
    refine sr_sub [(0, _, _), (5, _, _), (13, _, _), (14, _, _), (15, _, _)] (sub_cons rfl (sub_cons rfl (sub_cons rfl (sub_cons rfl (sub_cons rfl (sub_nil _)))))) ?_
    refine sr_nil (hK7 _ _ ?_)
    refine sc_seq fun K8 hK8 => ?_
    refine sc_text [3, 2] ?_
    refine sr_pu rfl (fun _ => rd_move (ev_t rfl)) ?_
    refine sr_call rfl (rc_call go_syntax_printer_line ev_f (args_cons (ev_t rfl) (args_nil)) rfl) (line_ok hP (by simp only [List.length_append]; omega)) ?_
    rintro v20 w20 ⟨rfl, hP, g20⟩
    refine ⟨fun h => absurd h (by decide), ?_⟩
    have g := g.trans g20
    try have gl1 := gl1.trans g20
    replace B5 := B5.pf g20 rfl (by omega)
    have hk0 := hk0.pf g20 hD
    try have hkid := hkid.pf g20 hD
    refine sr_sub [(0, _, _), (5, _, _), (13, _, _), (14, _, _), (15, _, _)] (sub_cons rfl (sub_cons rfl (sub_cons rfl (sub_cons rfl (sub_cons rfl (sub_nil _)))))) ?_
    refine sr_nil (hK8 _ _ ?_)
    refine sc_text [3, 0, 2] ?_
    refine sr_pu rfl (fun _ => rd_move (ev_t rfl)) ?_
    refine sr_rd rfl (rd_loads agg_api_Node (ev_t rfl) rfl (fun _ => B5.row)) ?_
    refine sr_call rfl (rc_call go_syntax_printer_stmt ev_f (args_cons (ev_t rfl) (args_cons (ev_t rfl) (args_nil))) rfl) (hst ks[i] (List.getElem_mem h1) _ _ D n0 b _ (k + 1) _ hkid hD hP (by simp only [List.length_append, List.length_cons, List.length_nil, tabsL, List.length_replicate]; omega) (by omega)) ?_
    rintro v23 w23 ⟨rfl, hP, g23⟩
    refine ⟨fun h => absurd h (by decide), ?_⟩
    have g := g.trans g23
    try have gl1 := gl1.trans g23
    replace B5 := B5.pf g23 rfl (by omega)
    have hk0 := hk0.pf g23 hD
    try have hkid := hkid.pf g23 hD
    refine sr_sub [(0, _, _), (13, _, _), (14, _, _), (15, _, _)] (sub_cons rfl (sub_cons rfl (sub_cons rfl (sub_cons rfl (sub_nil _))))) ?_
    refine sr_nil (hK6 _ _ ?_)
    refine sc_text [3, 3] ?_
    refine sr_pu rfl (fun _ => rd_add (ev_t rfl) ev_c (fun _ => by omega)) ?_
    refine sr_pu rfl (fun _ => rd_move (ev_t rfl)) ?_
    refine sr_sub [(15, _, _), (0, _, _), (13, _, _), (14, _, _)] (sub_cons rfl (sub_cons rfl (sub_cons rfl (sub_cons rfl (sub_nil _))))) ?_
    refine sr_nil (fun a ha => ?_)
    refine ⟨i + 1, ha, ⟨⟨h1, ?_, hk0⟩, gl1⟩, by omega⟩
    rw [hjs]; simpa only [List.append_assoc] using hP
  replace h1 : i = ks.length := by simp only [decide_eq_false_iff_not] at h1; omega
  refine sc_exit rfl (hK2 _ _ ?_)
  refine sc_sub [(0, _, _)] (sub_cons rfl (sub_nil _)) ?_
  refine sc_text [3, 3, 3, 0, 3, 3, 3, 2] ?_
  obtain ⟨p1, a1, q1, hB1, hB2⟩ := hP.bld
  refine sr_pu rfl (fun _ => rd_move (ev_t rfl)) ?_
  refine sr_pu rfl (fun _ => rd_nil (ev_t rfl)) ?_
  refine sr_pu rfl (fun _ => rd_field fo_syntax_printer_1 (ev_t rfl)) ?_
  refine sr_rd rfl (rd_load one_int (ev_t rfl) (fun _ => hB1.B.at_ rfl)) ?_
  refine sr_pu rfl (fun _ => rd_sub (ev_t rfl) ev_c (fun _ => by omega)) ?_
  refine sr_pu rfl (fun _ => rd_nil (ev_t rfl)) ?_
  refine sr_pu rfl (fun _ => rd_field fo_syntax_printer_1 (ev_t rfl)) ?_
  refine sr_store_one rfl sz_int (ev_t rfl) (ev_t rfl) rfl hB1.B rfl rfl ?_
  intro wS2 hgS2 hzS2 B62
  have g := pf_b g hgS2 hbn.1
  have hP := hP.tabs (k' := k) hB1 hB2 hgS2 (by simpa using B62)
  refine sr_nil (t_end0 rfl ?_)
  refine ⟨rfl, ?_, g⟩
  rw [h1, List.take_length] at hP; exact hP
theorem block_ok {t : Nd} (hst : ∀ x ∈ t.kids, PrOk fn_syntax_printer_stmt pst x) (hs : ∀ x ∈ t.kids, pst x = stT x) : PrOk fn_syntax_printer_block blkT t := by
  intro p c D n0 b l k w hk0 hD hP hlen hc
  have g := PF.refl n0 b w
  have hbn := hP.ge
  have hcn : count t = 1 + (t.kids.map count).sum := count_eq t
  have hpl := plX_congr (f := pst) (g := stT) (l := t.kids) hs (k + 1)
  rw [blkT_eq, ← hpl] at hlen
  simp only [List.length_append, List.length_cons, List.length_nil, tabsL, List.length_replicate] at hlen
  refine ret_of_sc (m := 16) func_syntax_printer_block rfl rfl [(0, True, _), (1, True, _)] (sub_cons rfl (sub_cons rfl (sub_nil _))) ?_
  refine sc_seq fun K1 hK1 => ?_
  refine sc_text [1] ?_
  refine sr_box rfl (ev_t rfl) rfl ?_
  intro b3 w3 N3
  have l3 := newge N3 g.size
  have g := g.trans (PF.of_g (N3.g))
  have hP := hP.grow (N3.g)
  have hk0 := hk0.grow (N3.g)
  have B3 := N3.blk
  refine sr_sub [(0, _, _), (3, _, _)] (sub_cons rfl (sub_cons rfl (sub_nil _))) ?_
  refine sr_nil (hK1 _ _ ?_)
  refine sc_seq fun K2 hK2 => ?_
  refine sc_text [3, 1, 2] ?_
  refine sr_pu rfl (fun _ => rd_move (ev_t rfl)) ?_
  refine sr_buildSlice [_] rfl el_sl_string ze_string (parts_cons ev_c (parts_nil)) rfl rfl ?_
  intro b5 w5 N5
  have x5_3 := N5.ne B3
  have l5 := newge N5 g.size
  have g := g.trans (PF.of_g (N5.g))
  replace B3 := B3.grow (N5.g)
  have hP := hP.grow (N5.g)
  have hk0 := hk0.grow (N5.g)
  have B5 := N5.blk
  refine sr_call rfl (rc_call go_syntax_printer_write ev_f (args_cons (ev_t rfl) (args_cons (ev_t rfl) (args_nil))) rfl) (write_ok [[123]] hP B5 (by omega) (by first | omega | (simp only [List.length_append, List.length_cons, List.length_nil, List.flatten_cons, List.flatten_nil, List.append_nil, tabsL, List.length_replicate]; omega) | (simp at hlen ⊢ <;> omega)) (by first | rfl | (simp [ht]; done) | (simpa using ht)) (Nat.le_of_ble_eq_true rfl)) ?_
  rintro v6 w6 ⟨rfl, hP, g6⟩
  refine ⟨fun h => absurd h (by decide), ?_⟩
  have g := g.trans g6
  replace B3 := B3.pf g6 rfl (by omega)
  replace B5 := B5.pf g6 rfl (by omega)
  have hk0 := hk0.pf g6 hD
  refine sr_sub [(0, _, _), (3, _, _)] (sub_cons rfl (sub_cons rfl (sub_nil _))) ?_
  refine sr_nil (hK2 _ _ ?_)
  refine sc_seq fun K3 hK3 => ?_
  refine sc_text [3, 3, 0, 2] ?_
  refine sr_pu rfl (fun _ => rd_move (ev_t rfl)) ?_
  refine sr_pu rfl (fun _ => rd_field fo_api_Node_4 (ev_t rfl)) ?_
  refine sr_rd rfl (rd_load one_sl_api_Node (ev_t rfl) (fun _ => B3.at_ rfl)) ?_
  refine sr_call rfl (rc_call go_syntax_printer_lines ev_f (args_cons (ev_t rfl) (args_cons (ev_t rfl) (args_nil))) rfl) (lines_ok hst hk0 hD hP (by simp only [List.length_append, List.length_cons, List.length_nil, List.flatten_cons, List.flatten_nil, List.append_nil]; omega) (by omega)) ?_
  rintro v10 w10 ⟨rfl, hP, g10⟩
  refine ⟨fun h => absurd h (by decide), ?_⟩
  have g := g.trans g10
  replace B3 := B3.pf g10 rfl (by omega)
  replace B5 := B5.pf g10 rfl (by omega)
  have hk0 := hk0.pf g10 hD
  refine sr_sub [(0, _, _)] (sub_cons rfl (sub_nil _)) ?_
  refine sr_nil (hK3 _ _ ?_)
  refine sc_seq fun K4 hK4 => ?_
  refine sc_text [3, 2] ?_
  refine sr_pu rfl (fun _ => rd_move (ev_t rfl)) ?_
  refine sr_call rfl (rc_call go_syntax_printer_line ev_f (args_cons (ev_t rfl) (args_nil)) rfl) (line_ok hP (by simp only [List.length_append, List.length_cons, List.length_nil, List.flatten_cons, List.flatten_nil, List.append_nil]; omega)) ?_
  rintro v12 w12 ⟨rfl, hP, g12⟩
  refine ⟨fun h => absurd h (by decide), ?_⟩
  have g := g.trans g12
  replace B3 := B3.pf g12 rfl (by omega)
  replace B5 := B5.pf g12 rfl (by omega)
  have hk0 := hk0.pf g12 hD
  refine sr_sub [(0, _, _)] (sub_cons rfl (sub_nil _)) ?_
  refine sr_nil (hK4 _ _ ?_)
  refine sc_text [3, 1, 2] ?_
  refine sr_pu rfl (fun _ => rd_move (ev_t rfl)) ?_
  refine sr_buildSlice [_] rfl el_sl_string ze_string (parts_cons ev_c (parts_nil)) rfl rfl ?_
  intro b14 w14 N14
  have x14_3 := N14.ne B3
  have x14_5 := N14.ne B5
  have l14 := newge N14 g.size
  have g := g.trans (PF.of_g (N14.g))
  replace B3 := B3.grow (N14.g)
  replace B5 := B5.grow (N14.g)
  have hP := hP.grow (N14.g)
  have hk0 := hk0.grow (N14.g)
  have B14 := N14.blk
  refine sr_call rfl (rc_call go_syntax_printer_write ev_f (args_cons (ev_t rfl) (args_cons (ev_t rfl) (args_nil))) rfl) (write_ok [[125]] hP B14 (by omega) (by first | omega | (simp only [List.length_append, List.length_cons, List.length_nil, List.flatten_cons, List.flatten_nil, List.append_nil, tabsL, List.length_replicate]; omega) | (simp at hlen ⊢ <;> omega)) (by first | rfl | (simp [ht]; done) | (simpa using ht)) (Nat.le_of_ble_eq_true rfl)) ?_
  rintro v15 w15 ⟨rfl, hP, g15⟩
  refine ⟨fun h => absurd h (by decide), ?_⟩
  have g := g.trans g15
  replace B3 := B3.pf g15 rfl (by omega)
  replace B5 := B5.pf g15 rfl (by omega)
  replace B14 := B14.pf g15 rfl (by omega)
  have hk0 := hk0.pf g15 hD
  refine sr_sub [] (sub_nil _) ?_
  refine sr_nil (t_end0 rfl ?_)
  refine ⟨rfl, ?_, g⟩
  rw [blkT_eq, ← hpl]; simpa only [List.append_assoc, List.flatten_cons, List.flatten_nil, List.append_nil] using hP
theorem list_ok' {ks : List Nd} {m c : Nat} {p : Option Addr} {D : Nat → Prop} {n0 b : Nat} {l : List UInt8} {k : Nat} {w : World} (hm : m = ks.length) (hex : ∀ x ∈ ks, PrOk fn_syntax_printer_expr exT x) (hk0 : Kd w D ks (.slice p m c)) (hD : ∀ x, D x → x < n0) (hP : Prn n0 b l k w)
    (hlen : l.length + (joinX (ks.map fun y => exT y k)).length < 100000000) (hc : k + (ks.map count).sum ≤ 1000000) :
    Ret PP fn_syntax_printer_list #[.pointer (some ⟨b, 0, none⟩), .slice p m c] w (Wr n0 b l (joinX (ks.map fun y => exT y k)) k w) := by
  subst hm; exact list_ok hex hk0 hD hP hlen hc
theorem kd_drop {w : World} {D : Nat → Prop} {ks : List Nd} {p : Option Addr} {c : Nat} (hk : Kd w D ks (.slice p ks.length c)) (h : 1 ≤ ks.length) : ∃ b o, p = some ⟨b, o, none⟩ ∧ Kd w D (ks.drop 1) (.slice (some ⟨b, if c = (1 : Int).toNat then o else o + (1 : Int).toNat * 9, none⟩) (ks.length - (1 : Int).toNat) (c - (1 : Int).toNat)) := by
  obtain ⟨p', c', hpe, hc, hks⟩ := hk
  injection hpe with hpe _ hce
  subst hpe hce
  obtain ⟨b, o, rfl, hb, xs, hR, hX⟩ := hks h
  have h1 : (1 : Int).toNat = 1 := rfl
  refine ⟨b, o, rfl, some ⟨b, if c = (1 : Int).toNat then o else o + (1 : Int).toNat * 9, none⟩, c - (1 : Int).toNat, by rw [List.length_drop]; rfl, by rw [List.length_drop]; omega, fun h0 => ⟨b, _, rfl, hb, ?_⟩⟩
  rw [List.length_drop] at h0
  rw [if_neg (by omega)]
  match ks, hX with
  | t :: ts, hX =>
    obtain ⟨v, r, rfl, _, hr⟩ := hX
    refine ⟨r, fun j u hj => ?_, hr⟩
    have := hR (j + 9) u (by rw [List.getElem?_append_right (by rw [ndCells_length]; omega), ndCells_length, Nat.add_sub_cancel]; exact hj)
    rw [show o + (1 : Int).toNat * 9 + j = o + (j + 9) by omega]; exact this
theorem okNd_kidAt' {t : Nd} (hk : okNd t) {i : Nat} (h : i < t.kids.length) : okNd (kidAt t i) := by
  rw [kidAt_eq h]; exact okNd_kid hk (List.getElem_mem h)
theorem ok_num {t : Nd} (h : okNd t) : t.num ≤ 9223372036854775807 := by rw [okNd_eq] at h; exact h.2.1.2
theorem PBel.e {t : Nd} (ih : PBel t) {i : Nat} (h : i < t.kids.length) (hx : exprB (kidAt t i) = true) (hk : okNd t) : PrOk fn_syntax_printer_expr exT (kidAt t i) := (ih.kid h).ex hx (okNd_kidAt' hk h)
theorem PBel.s {t : Nd} (ih : PBel t) {i : Nat} (h : i < t.kids.length) (hx : pstB (kidAt t i) = true) (hk : okNd t) : PrOk fn_syntax_printer_stmt pst (kidAt t i) := (ih.kid h).st hx (okNd_kidAt' hk h)
theorem PBel.es {t : Nd} (ih : PBel t) (hx : t.kids.all exprB = true) (hk : okNd t) : ∀ x ∈ t.kids, PrOk fn_syntax_printer_expr exT x := fun x hm => (ih x (count_mem hm)).ex (List.all_eq_true.1 hx x hm) (okNd_kid hk hm)
theorem stmt_pstB {t : Nd} (h : stmtB t = true) : pstB t = true := by unfold pstB; rw [h]; rfl
theorem PBel.b {t : Nd} (ih : PBel t) {i : Nat} (h : i < t.kids.length) (hx : blockB (kidAt t i) = true) (hk : okNd t) : PrOk fn_syntax_printer_block blkT (kidAt t i) := by
  have hs := List.all_eq_true.1 (sh10 hx)
  exact block_ok (fun x hm => (ih x (Nat.lt_trans (count_mem hm) (count_kidAt h))).st (stmt_pstB (hs x hm)) (okNd_kid (okNd_kidAt' hk h) hm)) (fun x hm => pst_stmt (hs x hm))
theorem PBel.b0 {t : Nd} (ih : PBel t) (hx : blockB t = true) (hk : okNd t) : PrOk fn_syntax_printer_block blkT t := by
  have hs := List.all_eq_true.1 (sh10 hx)
  exact block_ok (fun x hm => (ih x (count_mem hm)).st (stmt_pstB (hs x hm)) (okNd_kid hk hm)) (fun x hm => pst_stmt (hs x hm))
theorem all_one {t : Nd} {f : Nd → Bool} (hl : t.kids.length = 1) (h : f (kidAt t 0) = true) : t.kids.all f = true := by
  obtain ⟨a, ha⟩ := List.length_eq_one_iff.1 hl
  rw [show kidAt t 0 = a by simp [kidAt, ha]] at h
  rw [ha]; simp [h]
theorem digL_ne (n : Nat) : digL n ≠ [] := by
  unfold digL digF
  cases Nat.blt n 10 <;> simp
theorem exp_kinds {t : Nd} (h : exprB t = true) : t.kind = 24 ∨ t.kind = 25 ∨ t.kind = 26 ∨ t.kind = 27 ∨ t.kind = 28 ∨ t.kind = 29 ∨ t.kind = 30 ∨ t.kind = 31 ∨ t.kind = 32 ∨ t.kind = 33 ∨ t.kind = 34 ∨ t.kind = 35 ∨ t.kind = 36 ∨ t.kind = 37 ∨ t.kind = 38 := by
  have h1 := (Bool.and_eq_true_iff.1 h).1
  unfold expK at h1
  simp only [anyK, Bool.or_eq_true, decide_eq_true_eq] at h1
  omega
theorem primary_ok {t : Nd} (hl : 0 < t.kids.length) (hE0 : PrOk fn_syntax_printer_expr exT (kidAt t 0)) : PrOk fn_syntax_printer_primary (fun t k => parX (memK [32, 31, 33] (kidAt t 0).kind) (exT (kidAt t 0) k)) t := by
  intro p c D n0 b l k w hk0 hD hP hlen hc
  have g := PF.refl n0 b w
  have hbn := hP.ge
  have hc0 := count_kidAt hl
  refine ret_of_sc (m := 11) func_syntax_printer_primary rfl rfl [(0, True, _), (1, True, _)] (sub_cons rfl (sub_cons rfl (sub_nil _))) ?_
  refine sc_seq fun K1 hK1 => ?_
  refine sc_text [1] ?_
  refine sr_box rfl (ev_t rfl) rfl ?_
  intro b3 w3 N3
  have l3 := newge N3 g.size
  have g := g.trans (PF.of_g (N3.g))
  have hP := hP.grow (N3.g)
  have hk0 := hk0.grow (N3.g)
  try have hkid := hkid.grow (N3.g)
  have B3 := N3.blk
  refine sr_sub [(0, _, _), (3, _, _)] (sub_cons rfl (sub_cons rfl (sub_nil _))) ?_
  refine sr_nil (hK1 _ _ ?_)
  refine sc_text [3, 3, 0, 3, 0, 1, 2] ?_
  refine sr_pu rfl (fun _ => rd_move (ev_t rfl)) ?_
  refine sr_pu rfl (fun _ => rd_field fo_api_Node_4 (ev_t rfl)) ?_
  refine sr_rd rfl (rd_load one_sl_api_Node (ev_t rfl) (fun _ => B3.at_ rfl)) ?_
  obtain ⟨hpe, p_7, c_7, hcell, hkid⟩ := kd_opt hk0 (i := 0) (by omega)
  refine sr_pu rfl (fun _ => rd_idxq el_sl_api_Node (ev_t rfl) ev_c (fun _ => by omega) (fun _ => hpe)) ?_
  refine sr_rd rfl (rd_loads agg_api_Node (ev_t rfl) rfl (fun _ => hcell)) ?_
  refine sr_buildSlice [_, _, _] rfl el_sl_int ze_int (parts_cons ev_c (parts_cons ev_c (parts_cons ev_c (parts_nil)))) rfl rfl ?_
  intro b9 w9 N9
  have x9_3 := N9.ne B3
  have l9 := newge N9 g.size
  have g := g.trans (PF.of_g (N9.g))
  replace B3 := B3.grow (N9.g)
  have hP := hP.grow (N9.g)
  have hk0 := hk0.grow (N9.g)
  try have hkid := hkid.grow (N9.g)
  have B9 := N9.blk
  refine sr_call rfl (rc_call go_syntax_printer_inner ev_f (args_cons (ev_t rfl) (args_cons (ev_t rfl) (args_cons (ev_t rfl) (args_nil)))) rfl) (inner_ok hE0 [32, 31, 33] _ _ hkid hD hP B9 (by decide) (by first | omega | (simp only [List.length_append, List.length_cons, List.length_nil, List.flatten_cons, List.flatten_nil, List.append_nil, tabsL, List.length_replicate]; omega)) (by omega)) ?_
  rintro v10 w10 ⟨rfl, hP, g10⟩
  refine ⟨fun h => absurd h (by decide), ?_⟩
  have g := g.trans g10
  replace B3 := B3.pf g10 rfl (by omega)
  replace B9 := B9.pf g10 rfl (by omega)
  have hk0 := hk0.pf g10 hD
  refine sr_sub [] (sub_nil _) ?_
  refine sr_nil (t_end0 rfl ?_)
  exact ⟨rfl, hP, g⟩
theorem pair_ok {t : Nd} (s : List UInt8) (hs : s ≠ []) (hl : t.kids.length = 2) (hE0 : PrOk fn_syntax_printer_expr exT (kidAt t 0)) (hE1 : PrOk fn_syntax_printer_expr exT (kidAt t 1)) {p : Option Addr} {c : Nat} {D : Nat → Prop} {n0 b : Nat} {l : List UInt8} {k : Nat} {w : World} (hk0 : Kd w D t.kids (.slice p t.kids.length c)) (hD : ∀ x, D x → x < n0) (hP : Prn n0 b l k w)
    (hlen : l.length + ((exT (kidAt t 0) k ++ s) ++ exT (kidAt t 1) k).length < 100000000) (hc : k + count t ≤ 1000000) :
    Ret PP fn_syntax_printer_pair #[.pointer (some ⟨b, 0, none⟩), ndV t (.slice p t.kids.length c), Str s] w (Wr n0 b l ((exT (kidAt t 0) k ++ s) ++ exT (kidAt t 1) k) k w) := by
  have g := PF.refl n0 b w
  have hbn := hP.ge
  have hc0 := count_kidAt (t := t) (i := 0) (by omega)
  have hc1 := count_kidAt (t := t) (i := 1) (by omega)
  simp only [List.length_append] at hlen
  refine ret_of_sc (m := 22) func_syntax_printer_pair rfl rfl [(0, True, _), (1, True, _), (2, True, _)] (sub_cons rfl (sub_cons rfl (sub_cons rfl (sub_nil _)))) ?_
  refine sc_seq fun K1 hK1 => ?_
  refine sc_text [1] ?_
  refine sr_box rfl (ev_t rfl) rfl ?_
  intro b4 w4 N4
  have l4 := newge N4 g.size
  have g := g.trans (PF.of_g (N4.g))
  have hP := hP.grow (N4.g)
  have hk0 := hk0.grow (N4.g)
  try have hkid := hkid.grow (N4.g)
  have B4 := N4.blk
  refine sr_sub [(0, _, _), (2, _, _), (4, _, _)] (sub_cons rfl (sub_cons rfl (sub_cons rfl (sub_nil _)))) ?_
  refine sr_nil (hK1 _ _ ?_)
  refine sc_seq fun K2 hK2 => ?_
  refine sc_text [3, 3, 0, 3, 0, 2] ?_
  refine sr_pu rfl (fun _ => rd_move (ev_t rfl)) ?_
  refine sr_pu rfl (fun _ => rd_field fo_api_Node_4 (ev_t rfl)) ?_
  refine sr_rd rfl (rd_load one_sl_api_Node (ev_t rfl) (fun _ => B4.at_ rfl)) ?_
  obtain ⟨hpe, p_9, c_9, hcell, hkid⟩ := kd_opt hk0 (i := 0) (by omega)
  refine sr_pu rfl (fun _ => rd_idxq el_sl_api_Node (ev_t rfl) ev_c (fun _ => by omega) (fun _ => hpe)) ?_
  refine sr_rd rfl (rd_loads agg_api_Node (ev_t rfl) rfl (fun _ => hcell)) ?_
  refine sr_call rfl (rc_call go_syntax_printer_expr ev_f (args_cons (ev_t rfl) (args_cons (ev_t rfl) (args_nil))) rfl) (hE0 _ _ D n0 b _ k _ hkid hD hP (by first | omega | (simp only [List.length_append, List.length_cons, List.length_nil, List.flatten_cons, List.flatten_nil, List.append_nil, tabsL, List.length_replicate]; omega)) (by omega)) ?_
  rintro v11 w11 ⟨rfl, hP, g11⟩
  refine ⟨fun h => absurd h (by decide), ?_⟩
  have g := g.trans g11
  replace B4 := B4.pf g11 rfl (by omega)
  have hk0 := hk0.pf g11 hD
  refine sr_sub [(0, _, _), (2, _, _), (4, _, _)] (sub_cons rfl (sub_cons rfl (sub_cons rfl (sub_nil _)))) ?_
  refine sr_nil (hK2 _ _ ?_)
  refine sc_seq fun K3 hK3 => ?_
  refine sc_text [3, 3, 1, 2] ?_
  refine sr_pu rfl (fun _ => rd_move (ev_t rfl)) ?_
  refine sr_pu rfl (fun _ => rd_move (ev_t rfl)) ?_
  refine sr_buildSlice [_] rfl el_sl_string ze_string (parts_cons (ev_t rfl) (parts_nil)) rfl rfl ?_
  intro b14 w14 N14
  have x14_4 := N14.ne B4
  have l14 := newge N14 g.size
  have g := g.trans (PF.of_g (N14.g))
  replace B4 := B4.grow (N14.g)
  have hP := hP.grow (N14.g)
  have hk0 := hk0.grow (N14.g)
  try have hkid := hkid.grow (N14.g)
  have B14 := N14.blk
  refine sr_call rfl (rc_call go_syntax_printer_write ev_f (args_cons (ev_t rfl) (args_cons (ev_t rfl) (args_nil))) rfl) (write_ok [s] hP B14 (by omega) (by first | omega | (simp only [List.length_append, List.length_cons, List.length_nil, List.flatten_cons, List.flatten_nil, List.append_nil, tabsL, List.length_replicate]; omega)) (by simp [hs]) (Nat.le_of_ble_eq_true rfl)) ?_
  rintro v15 w15 ⟨rfl, hP, g15⟩
  refine ⟨fun h => absurd h (by decide), ?_⟩
  have g := g.trans g15
  replace B4 := B4.pf g15 rfl (by omega)
  replace B14 := B14.pf g15 rfl (by omega)
  have hk0 := hk0.pf g15 hD
  refine sr_sub [(0, _, _), (4, _, _)] (sub_cons rfl (sub_cons rfl (sub_nil _))) ?_
  refine sr_nil (hK3 _ _ ?_)
  refine sc_text [3, 3, 0, 3, 0, 2] ?_
  refine sr_pu rfl (fun _ => rd_move (ev_t rfl)) ?_
  refine sr_pu rfl (fun _ => rd_field fo_api_Node_4 (ev_t rfl)) ?_
  refine sr_rd rfl (rd_load one_sl_api_Node (ev_t rfl) (fun _ => B4.at_ rfl)) ?_
  obtain ⟨hpe, p_19, c_19, hcell, hkid⟩ := kd_opt hk0 (i := 1) (by omega)
  refine sr_pu rfl (fun _ => rd_idxq el_sl_api_Node (ev_t rfl) ev_c (fun _ => by omega) (fun _ => hpe)) ?_
  refine sr_rd rfl (rd_loads agg_api_Node (ev_t rfl) rfl (fun _ => hcell)) ?_
  refine sr_call rfl (rc_call go_syntax_printer_expr ev_f (args_cons (ev_t rfl) (args_cons (ev_t rfl) (args_nil))) rfl) (hE1 _ _ D n0 b _ k _ hkid hD hP (by first | omega | (simp only [List.length_append, List.length_cons, List.length_nil, List.flatten_cons, List.flatten_nil, List.append_nil, tabsL, List.length_replicate]; omega)) (by omega)) ?_
  rintro v21 w21 ⟨rfl, hP, g21⟩
  refine ⟨fun h => absurd h (by decide), ?_⟩
  have g := g.trans g21
  replace B4 := B4.pf g21 rfl (by omega)
  replace B14 := B14.pf g21 rfl (by omega)
  have hk0 := hk0.pf g21 hD
  refine sr_sub [] (sub_nil _) ?_
  refine sr_nil (t_end0 rfl ?_)
  refine ⟨rfl, ?_, g⟩
  simpa only [List.append_assoc, List.flatten_cons, List.flatten_nil, List.append_nil] using hP
end Go.Rk
