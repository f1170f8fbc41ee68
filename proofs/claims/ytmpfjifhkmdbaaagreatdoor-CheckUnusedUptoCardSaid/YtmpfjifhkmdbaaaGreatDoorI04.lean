/- Merged texts. Conditions: each text's own. -/
import Derived.Test.YtmpfjifhkmdbaaaGreatDoorI03
import Derived.Lib.ItoaNum
import Derived.Test.YtmpfjifhkmdbaaaGreatDoorI02
import Derived.Test.YtmpfjifhkmdbaaaGreatDoorI01
import Derived.Laws.MakeOwn
import Derived.Laws.BytesString
import Derived.Lib.ConvBytes
import Derived.Lib.AtoiErrMem
import Derived.Laws.OwnMore
import Derived.ChangeSame
import Derived.OpenShut
import Derived.Below
import Derived.Test.YtmpfjifhkmdbaaaGreatDoorCards
import Derived.Test.YtmpfjifhkmdbaaaGreatDoorTie
import Derived.WalkKit
import Derived.ProofKit
import Derived.Deep.DeepHandedRow
import Derived.Deep.DeepWitnessRowRef
import Derived.Lib.LaidTab
import Derived.Stop.LaidErr
import Derived.ShutString
import Derived.ChangeMaps5
import Derived.Test.YtmpfjifhkmdbaaaGreatDoorRows
import Derived.Deep.Slices
import Derived.Carry
set_option linter.unusedSimpArgs false
set_option linter.unusedVariables false
set_option maxHeartbeats 16000000
set_option maxRecDepth 100000
open Array renaming getElem?_toList→Aja
open Bool renaming and_eq_true→Aaa,or_eq_true→Aca,false_and→Ala,and_eq_true_iff→Ama,noConfusion→Baa,and_false→Bha
open Go renaming World→Aa,TypeId→Ba,PanicEntry→Da,Program→Ea,Value→Fa
open Go.World renaming block_lt_of_cell?→Ga,cell?_of_block→Ha
open Int renaming toNat_of_nonneg→Bta
open List renaming getElem?_eq_getElem→Afa,length_append→Aga,mem_cons→Aia,getElem?_append_left→Ana,getElem?_append_right→Aoa,getElem?_eq_none→Apa,getElem?_take→Aqa,length_take→Ara,range→Aua,getElem?_set_self→Awa,getElem?_set_ne→Axa,map_cons→Aya,map_nil→Aza,drop_zero→Bba,mem_singleton→Bca,mem_append→Bea,map_append→Bfa,drop_eq_nil_of_le→Bga,mem_cons_of_mem→Bja,getElem_of_mem→Bka,take_succ_cons→Bma,drop_succ_cons→Bna,getElem?_cons_zero→Boa,getElem?_cons_succ→Bpa,flatten_append→Bra,drop_eq_getElem_cons→Bsa,mem_of_find?_eq_some→Bua
open Nat renaming le_refl→Aba,beq→Ada,le_trans→Aea,zero_add→Aha,zero_le→Aka,eq_of_beq_eq_true→Asa,lt_of_lt_of_le→Ata,sub_self→Ava,mul_one→Bda,lt_irrefl→Bia,eq_zero_or_pos→Bqa
open Option renaming map_eq_some_iff→Bla
namespace Go.Proofs
end Go.Proofs
namespace Go.Rk
open Go.Proofs
open Go Go.RowKit
theorem Xbd{s:List UInt8}(h:nameB s=true):s≠[]:=by
 intro e;subst e;revert h;decide
theorem Vg{t:Nd}{f:Nd→Bool}(h:t.kids.all f=true){i:Nat}(hi:i<t.kids.length):f (Zb t i)=true:=by
 rw [Yz hi];exact List.all_eq_true.1 h _ (List.getElem_mem hi)
theorem Yng{s:List UInt8}(h:anyS binOps s=true):s≠[]:=by
 intro e;subst e;revert h;decide
theorem Jw{t:Nd}(h:noneB t=true):t.kind=9∧t.text=[]∧t.kids.length=0:=by
 unfold noneB at h;simp only [Aaa,Wpg] at h;exact ⟨h.1.1,h.1.2,by simpa [lenK] using h.2⟩
theorem Qhc{t:Nd}(h:exprB t=true):t.kind≠9:=by
 intro e;unfold exprB at h;rw [e] at h;have h:(expK 9&&permF t)=true:=h;rw [show expK 9=false by decide] at h;cases h
theorem Xcd{t:Nd}(h:isTypeB t=true):t.kind≠9:=by
 intro e;unfold isTypeB at h;rw [e] at h;cases h
theorem Xdd{t:Nd}{k:Int}(h:kindB t k=true):t.kind=k∧exprB t=true:=by
 unfold kindB at h;simp only [Aaa,Wpg] at h;exact h
theorem Qv{t:Nd}(h:blockB t=true):t.kind=10:=Wrg (Ama.1 h).1
theorem sh28{t:Nd}(h:t.kind=28)(hx:exprB t=true):t.text≠[]∧t.kids.length=1∧exprB (Zb t 0)=true:=by
 rw [← Ql] at hx;unfold Uc at hx;rw [h] at hx;have hx:((nameB t.text&&lenK t 1)&&exprB (Zb t 0))=true:=hx;simp only [Aaa,Aca,Wpg] at hx;exact ⟨Xbd hx.1.1,by (have hz:=hx.1.2;first|(unfold lenK at hz;simp at hz;omega)|(simp at hz;omega)),hx.2⟩
theorem sh29{t:Nd}(h:t.kind=29)(hx:exprB t=true):t.kids.length=2∧exprB (Zb t 0)=true∧exprB (Zb t 1)=true:=by
 rw [← Ql] at hx;unfold Uc at hx;rw [h] at hx;have hx:((plainB t&&lenK t 2)&&t.kids.all exprB)=true:=hx;simp only [Aaa,Aca,Wpg] at hx;exact ⟨by (have hz:=hx.1.2;first|(unfold lenK at hz;simp at hz;omega)|(simp at hz;omega)),Vg hx.2 (by (have hz:=hx.1.2;first|(unfold lenK at hz;simp at hz;omega)|(simp at hz;omega))),Vg hx.2 (by (have hz:=hx.1.2;first|(unfold lenK at hz;simp at hz;omega)|(simp at hz;omega)))⟩
theorem sh30{t:Nd}(h:t.kind=30)(hx:exprB t=true):1≤t.kids.length∧t.kids.all exprB=true:=by
 rw [← Ql] at hx;unfold Uc at hx;rw [h] at hx;have hx:((plainB t&&decide (1≤(t.kids.length:Int)))&&t.kids.all exprB)=true:=hx;simp only [Aaa,Aca,Wpg] at hx;exact ⟨by have:=hx.1.2;omega,hx.2⟩
theorem sh31{t:Nd}(h:t.kind=31)(hx:exprB t=true):t.text≠[]∧t.kids.length=1∧exprB (Zb t 0)=true:=by
 rw [← Ql] at hx;unfold Uc at hx;rw [h] at hx;have hx:(((decide (t.text=[45]) || decide (t.text=[33]))&&lenK t 1)&&exprB (Zb t 0))=true:=hx;simp only [Aaa,Aca,Wpg] at hx;exact ⟨by rcases hx.1.1 with e|e <;> rw [e] <;> simp,by (have hz:=hx.1.2;first|(unfold lenK at hz;simp at hz;omega)|(simp at hz;omega)),hx.2⟩
theorem sh32{t:Nd}(h:t.kind=32)(hx:exprB t=true):t.text≠[]∧t.kids.length=2∧exprB (Zb t 0)=true∧exprB (Zb t 1)=true:=by
 rw [← Ql] at hx;unfold Uc at hx;rw [h] at hx;have hx:((anyS binOps t.text&&lenK t 2)&&t.kids.all exprB)=true:=hx;simp only [Aaa,Aca,Wpg] at hx;exact ⟨Yng hx.1.1,by (have hz:=hx.1.2;first|(unfold lenK at hz;simp at hz;omega)|(simp at hz;omega)),Vg hx.2 (by (have hz:=hx.1.2;first|(unfold lenK at hz;simp at hz;omega)|(simp at hz;omega))),Vg hx.2 (by (have hz:=hx.1.2;first|(unfold lenK at hz;simp at hz;omega)|(simp at hz;omega)))⟩
theorem sh33{t:Nd}(h:t.kind=33)(hx:exprB t=true):t.kids.length=1∧exprB (Zb t 0)=true:=by
 rw [← Ql] at hx;unfold Uc at hx;rw [h] at hx;have hx:((plainB t&&lenK t 1)&&exprB (Zb t 0))=true:=hx;simp only [Aaa,Aca,Wpg] at hx;exact ⟨by (have hz:=hx.1.2;first|(unfold lenK at hz;simp at hz;omega)|(simp at hz;omega)),hx.2⟩
theorem sh35{t:Nd}(h:t.kind=35)(hx:exprB t=true):t.kids.length=1∧exprB (Zb t 0)=true:=by
 rw [← Ql] at hx;unfold Uc at hx;rw [h] at hx;have hx:((plainB t&&lenK t 1)&&exprB (Zb t 0))=true:=hx;simp only [Aaa,Aca,Wpg] at hx;exact ⟨by (have hz:=hx.1.2;first|(unfold lenK at hz;simp at hz;omega)|(simp at hz;omega)),hx.2⟩
theorem sh36{t:Nd}(h:t.kind=36)(hx:exprB t=true):t.kids.length=1∧exprB (Zb t 0)=true:=by
 rw [← Ql] at hx;unfold Uc at hx;rw [h] at hx;have hx:((plainB t&&lenK t 1)&&exprB (Zb t 0))=true:=hx;simp only [Aaa,Aca,Wpg] at hx;exact ⟨by (have hz:=hx.1.2;first|(unfold lenK at hz;simp at hz;omega)|(simp at hz;omega)),hx.2⟩
theorem sh37{t:Nd}(h:t.kind=37)(hx:exprB t=true):t.kids.length=1∧exprB (Zb t 0)=true:=by
 rw [← Ql] at hx;unfold Uc at hx;rw [h] at hx;have hx:((plainB t&&lenK t 1)&&exprB (Zb t 0))=true:=hx;simp only [Aaa,Aca,Wpg] at hx;exact ⟨by (have hz:=hx.1.2;first|(unfold lenK at hz;simp at hz;omega)|(simp at hz;omega)),hx.2⟩
theorem sh38{t:Nd}(h:t.kind=38)(hx:exprB t=true):t.kids.length=1∧blockB (Zb t 0)=true:=by
 rw [← Ql] at hx;unfold Uc at hx;rw [h] at hx;have hx:((plainB t&&lenK t 1)&&blockB (Zb t 0))=true:=hx;simp only [Aaa,Aca,Wpg] at hx;exact ⟨by (have hz:=hx.1.2;first|(unfold lenK at hz;simp at hz;omega)|(simp at hz;omega)),hx.2⟩
theorem sh11{t:Nd}(h:t.kind=11)(hx:stmtB t=true):t.text≠[]∧t.kids.length=1∧exprB (Zb t 0)=true:=by
 rw [← Ug] at hx;unfold refStmt at hx;rw [h] at hx;have hx:((nameB t.text&&lenK t 1)&&exprB (Zb t 0))=true:=hx;simp only [Aaa,Aca,Wpg] at hx;exact ⟨Xbd hx.1.1,by (have hz:=hx.1.2;first|(unfold lenK at hz;simp at hz;omega)|(simp at hz;omega)),hx.2⟩
theorem sh12{t:Nd}(h:t.kind=12)(hx:stmtB t=true):t.kids.length=2∧exprB (Zb t 0)=true∧exprB (Zb t 1)=true:=by
 rw [← Ug] at hx;unfold refStmt at hx;rw [h] at hx;have hx:((plainB t&&lenK t 2)&&t.kids.all exprB)=true:=hx;simp only [Aaa,Aca,Wpg] at hx;exact ⟨by (have hz:=hx.1.2;first|(unfold lenK at hz;simp at hz;omega)|(simp at hz;omega)),Vg hx.2 (by (have hz:=hx.1.2;first|(unfold lenK at hz;simp at hz;omega)|(simp at hz;omega))),Vg hx.2 (by (have hz:=hx.1.2;first|(unfold lenK at hz;simp at hz;omega)|(simp at hz;omega)))⟩
theorem sh16{t:Nd}(h:t.kind=16)(hx:stmtB t=true):t.kids.length=2∧exprB (Zb t 0)=true∧exprB (Zb t 1)=true:=by
 rw [← Ug] at hx;unfold refStmt at hx;rw [h] at hx;have hx:((plainB t&&lenK t 2)&&t.kids.all exprB)=true:=hx;simp only [Aaa,Aca,Wpg] at hx;exact ⟨by (have hz:=hx.1.2;first|(unfold lenK at hz;simp at hz;omega)|(simp at hz;omega)),Vg hx.2 (by (have hz:=hx.1.2;first|(unfold lenK at hz;simp at hz;omega)|(simp at hz;omega))),Vg hx.2 (by (have hz:=hx.1.2;first|(unfold lenK at hz;simp at hz;omega)|(simp at hz;omega)))⟩
theorem sh13{t:Nd}(h:t.kind=13)(hx:stmtB t=true):t.kids.length=1∧exprB (Zb t 0)=true:=by
 rw [← Ug] at hx;unfold refStmt at hx;rw [h] at hx;have hx:((plainB t&&lenK t 1)&&(kindB (Zb t 0) 30 || kindB (Zb t 0) 33))=true:=hx;simp only [Aaa,Aca,Wpg] at hx;exact ⟨by (have hz:=hx.1.2;first|(unfold lenK at hz;simp at hz;omega)|(simp at hz;omega)),hx.2.elim (fun h=>(Xdd h).2) (fun h=>(Xdd h).2)⟩
theorem sh14{t:Nd}(h:t.kind=14)(hx:stmtB t=true):t.kids.length=1∧exprB (Zb t 0)=true:=by
 rw [← Ug] at hx;unfold refStmt at hx;rw [h] at hx;have hx:((plainB t&&lenK t 1)&&kindB (Zb t 0) 30)=true:=hx;simp only [Aaa,Aca,Wpg] at hx;exact ⟨by (have hz:=hx.1.2;first|(unfold lenK at hz;simp at hz;omega)|(simp at hz;omega)),(Xdd hx.2).2⟩
theorem sh15{t:Nd}(h:t.kind=15)(hx:stmtB t=true):t.kids.length=1∧exprB (Zb t 0)=true:=by
 rw [← Ug] at hx;unfold refStmt at hx;rw [h] at hx;have hx:((plainB t&&lenK t 1)&&kindB (Zb t 0) 30)=true:=hx;simp only [Aaa,Aca,Wpg] at hx;exact ⟨by (have hz:=hx.1.2;first|(unfold lenK at hz;simp at hz;omega)|(simp at hz;omega)),(Xdd hx.2).2⟩
theorem sh17{t:Nd}(h:t.kind=17)(hx:stmtB t=true):t.kids.length=1∧exprB (Zb t 0)=true:=by
 rw [← Ug] at hx;unfold refStmt at hx;rw [h] at hx;have hx:((plainB t&&lenK t 1)&&exprB (Zb t 0))=true:=hx;simp only [Aaa,Aca,Wpg] at hx;exact ⟨by (have hz:=hx.1.2;first|(unfold lenK at hz;simp at hz;omega)|(simp at hz;omega)),hx.2⟩
theorem sh21{t:Nd}(h:t.kind=21)(hx:stmtB t=true):t.kids.length=1∧exprB (Zb t 0)=true:=by
 rw [← Ug] at hx;unfold refStmt at hx;rw [h] at hx;have hx:((plainB t&&lenK t 1)&&exprB (Zb t 0))=true:=hx;simp only [Aaa,Aca,Wpg] at hx;exact ⟨by (have hz:=hx.1.2;first|(unfold lenK at hz;simp at hz;omega)|(simp at hz;omega)),hx.2⟩
theorem sh20{t:Nd}(h:t.kind=20)(hx:stmtB t=true):t.kids.length≤1∧t.kids.all exprB=true:=by
 rw [← Ug] at hx;unfold refStmt at hx;rw [h] at hx;have hx:((plainB t&&decide ((t.kids.length:Int)≤1))&&t.kids.all exprB)=true:=hx;simp only [Aaa,Aca,Wpg] at hx;exact ⟨by have:=hx.1.2;omega,hx.2⟩
theorem sh19{t:Nd}(h:t.kind=19)(hx:stmtB t=true):t.kids.length=2∧(noneB (Zb t 0)=true∨exprB (Zb t 0)=true)∧blockB (Zb t 1)=true:=by
 rw [← Ug] at hx;unfold refStmt at hx;rw [h] at hx;have hx:(((plainB t&&lenK t 2)&&(noneB (Zb t 0) || exprB (Zb t 0)))&&blockB (Zb t 1))=true:=hx;simp only [Aaa,Aca,Wpg] at hx;exact ⟨by (have hz:=hx.1.1.2;first|(unfold lenK at hz;simp at hz;omega)|(simp at hz;omega)),hx.1.2,hx.2⟩
theorem sh6s{t:Nd}(h:t.kind=6)(hx:stmtB t=true):varB t=true:=by
 rw [← Ug] at hx;unfold refStmt at hx;rw [h] at hx;have hx:(varB t)=true:=hx;exact hx
theorem sh10s{t:Nd}(h:t.kind=10)(hx:stmtB t=true):blockB t=true:=by
 rw [← Ug] at hx;unfold refStmt at hx;rw [h] at hx;have hx:(blockB t)=true:=hx;exact hx
theorem sh18s{t:Nd}(h:t.kind=18)(hx:stmtB t=true):ifB t=true:=by
 rw [← Ug] at hx;unfold refStmt at hx;rw [h] at hx;have hx:(ifB t)=true:=hx;exact hx
theorem sh10{t:Nd}(hx:blockB t=true):t.kids.all stmtB=true:=by
 rw [← Xcc,Jlb] at hx;cases h:(!decide (t.kind=10) || !plainB t);rw [h] at hx;exact hx;rw [h] at hx;cases hx
theorem sh18{t:Nd}(hx:ifB t=true):t.kids.length=3∧exprB (Zb t 0)=true∧blockB (Zb t 1)=true∧(blockB (Zb t 2)=true∨ifB (Zb t 2)=true∨noneB (Zb t 2)=true):=by
 rw [← Wzd,Yne] at hx;cases h:((!decide (t.kind=18) || !plainB t) || !lenK t 3);rw [h,Wtg] at hx;simp only [Aaa,Aca] at hx;simp only [Bool.or_eq_false_iff,Bool.not_eq_false'] at h;exact ⟨by (have hz:=h.2;first|(unfold lenK at hz;simp at hz;omega)|(simp at hz;omega)),hx.1.1,hx.1.2,hx.2.elim (fun h=>h.elim .inl fun h=>.inr (.inl h)) fun h=>.inr (.inr h)⟩;rw [h] at hx;cases hx
theorem sh6{t:Nd}(hx:varB t=true):t.text≠[]∧t.kids.length=2∧isTypeB (Zb t 0)=true∧(noneB (Zb t 1)=true∨exprB (Zb t 1)=true):=by
 rw [← Qwc,refVar] at hx;simp only [Aaa,Aca] at hx;exact ⟨Xbd hx.1.1.1.2,by (have hz:=hx.1.1.2;first|(unfold lenK at hz;simp at hz;omega)|(simp at hz;omega)),hx.1.2,hx.2⟩
theorem sh22{t:Nd}(h:t.kind=22)(hx:stmtB t=true):t.kids.all Zya=true:=by
 have hp:permF t=true:=(Ama.1 hx).2;rw [← Jmb h] at hp;exact (Ama.1 hp).1
theorem sh23{t:Nd}(hx:Zya t=true):t.kind=23∧t.kids.length=2∧commF (Zb t 0)=true∧blockB (Zb t 1)=true:=by
 unfold Zya at hx;simp only [Aaa,Wpg] at hx;exact ⟨hx.1.1.1.1,by (have hz:=hx.1.1.2;first|(unfold lenK at hz;simp at hz;omega)|(simp at hz;omega)),hx.1.2,hx.2⟩
theorem Jic{t:Nd}(h:commF t=true):t.kind=9∨stmtB t=true:=by
 rw [← Qbb,Uja] at h;cases h1:anyK [16,9] t.kind;rw [h1,Wtg] at h;cases h2:decide (t.kind=13);rw [h2,Wtg] at h;cases h3:decide (t.kind=12);rw [h3,Wtg] at h;cases h4:decide (t.kind=11);rw [h4] at h;cases h;rw [h4] at h;exact .inr (Ama.1 h).1;rw [h3] at h;exact .inr (Ama.1 h).1;rw [h2] at h;exact .inr (Ama.1 h).1;rw [h1,Wug,Aca] at h;exact h.elim .inr fun h=>.inl (Jw h).1
theorem Qic{t:Nd}(h:stmtB t=true):t.kind≠9:=by
 intro e;unfold stmtB at h;rw [e] at h;rw [show stK 9=false by decide] at h;cases h
def tabsL(k:Nat):List UInt8:=List.replicate k 9
def digF:Nat→Nat→List UInt8
 | 0,_=>[]
 | f+1,n=>bif Nat.blt n 10 then [UInt8.ofNat (48+n)] else digF f (n / 10)++[UInt8.ofNat (48+n % 10)]
def digL(n:Nat):List UInt8:=digF 20 n
structure Tx where
  ex:Nat→List UInt8
  st:Nat→List UInt8
  ls:Nat→List UInt8
  cs:Nat→List UInt8
def tx0:Tx:=⟨fun _=>[],fun _=>[],fun _=>[],fun _=>[]⟩
def blkX(x:Tx)(k:Nat):List UInt8:=(([123,10]++x.ls (k+1))++tabsL k)++[125]
def parX(q:Bool)(s:List UInt8):List UInt8:=bif q then ([40]++s)++[41] else s
def joinX:List (List UInt8)→List UInt8
 | []=>[]
 | s::r=>s++r.flatMap fun u=>[44,32]++u
def typeX(t:Nd):List UInt8:=bif decide (t.kind=8) then [42]++t.text else bif decide (t.text=[99,104,97,110]) then [99,104,97,110,32,105,110,116] else bif decide (t.text=[102,117,110,99]) then [102,117,110,99,40,41] else t.text
section
variable (t:Nd) (x:Nat→Tx) (l:List Tx)
def oprX(i k:Nat):List UInt8:=parX (decide ((Zb t i).kind=32)) ((x i).ex k)
def basX(k:Nat):List UInt8:=parX ((decide ((Zb t 0).kind=32) || decide ((Zb t 0).kind=31)) || decide ((Zb t 0).kind=33)) ((x 0).ex k)
def exX(k:Nat):List UInt8 :=
 bif decide (t.kind=24) then digL t.num.toNat
 else bif decide (t.kind=25) then (bif decide (t.num=1) then [116,114,117,101] else [102,97,108,115,101])
 else bif decide (t.kind=26) then [110,105,108]
 else bif decide (t.kind=27) then t.text
 else bif decide (t.kind=34) then ([110,101,119,40]++t.text)++[41]
 else bif decide (t.kind=28) then (basX t x k++[46])++t.text
 else bif decide (t.kind=29) then ((basX t x k++[91])++(x 1).ex k)++[93]
 else bif decide (t.kind=30) then ((basX t x k++[40])++joinX ((l.drop 1).map fun y=>y.ex k))++[41]
 else bif decide (t.kind=31) then t.text++oprX t x 0 k
 else bif decide (t.kind=33) then [60,45]++oprX t x 0 k
 else bif decide (t.kind=32) then (((oprX t x 0 k++[32])++t.text)++[32])++oprX t x 1 k
 else bif decide (t.kind=35) then ([109,97,107,101,40,91,93,105,110,116,44,32]++(x 0).ex k)++[41]
 else bif decide (t.kind=36) then ([109,97,107,101,40,99,104,97,110,32,105,110,116,44,32]++(x 0).ex k)++[41]
 else bif decide (t.kind=37) then ([108,101,110,40]++(x 0).ex k)++[41]
 else [102,117,110,99,40,41,32]++blkX (x 0) k
def varX(k:Nat):List UInt8:=((([118,97,114,32]++t.text)++[32])++typeX (Zb t 0))++(bif decide ((Zb t 1).kind=9) then [] else [32,61,32]++(x 1).ex k)
def ifX(k:Nat):List UInt8:=((([105,102,32]++(x 0).ex k)++[32])++blkX (x 1) k)++(bif decide ((Zb t 2).kind=10) then [32,101,108,115,101,32]++blkX (x 2) k else bif decide ((Zb t 2).kind=18) then [32,101,108,115,101,32]++(x 2).st k else [])
def stX(k:Nat):List UInt8 :=
 bif decide (t.kind=6) then varX t x k
 else bif decide (t.kind=10) then (([123,10]++l.flatMap fun y=>(tabsL (k+1)++y.st (k+1))++[10])++tabsL k)++[125]
 else bif decide (t.kind=11) then (t.text++[32,58,61,32])++(x 0).ex k
 else bif decide (t.kind=12) then ((x 0).ex k++[32,61,32])++(x 1).ex k
 else bif decide (t.kind=13) then (x 0).ex k
 else bif decide (t.kind=14) then [103,111,32]++(x 0).ex k
 else bif decide (t.kind=15) then [100,101,102,101,114,32]++(x 0).ex k
 else bif decide (t.kind=16) then ((x 0).ex k++[32,60,45,32])++(x 1).ex k
 else bif decide (t.kind=17) then ([99,108,111,115,101,40]++(x 0).ex k)++[41]
 else bif decide (t.kind=21) then ([112,114,105,110,116,40]++(x 0).ex k)++[41]
 else bif decide (t.kind=18) then ifX t x k
 else bif decide (t.kind=22) then (([115,101,108,101,99,116,32,123,10]++l.flatMap fun y=>y.cs k)++tabsL k)++[125]
 else bif decide (t.kind=20) then (bif lenK t 0 then [114,101,116,117,114,110] else [114,101,116,117,114,110,32]++(x 0).ex k)
 else bif decide ((Zb t 0).kind=9) then [102,111,114,32]++blkX (x 1) k
 else (([102,111,114,32]++(x 0).ex k)++[32])++blkX (x 1) k
def csX(k:Nat):List UInt8:=(bif decide ((Zb t 0).kind=9) then tabsL k++[100,101,102,97,117,108,116,58,10] else ((tabsL k++[99,97,115,101,32])++(x 0).st k)++[58,10])++(x 1).ls (k+1)
end
def lsX(l:List Tx)(k:Nat):List UInt8:=l.flatMap fun y=>(tabsL k++y.st k)++[10]
def txF(t:Nd)(l:List Tx):Tx:=⟨exX t (fun i=>l.getD i tx0) l,stX t (fun i=>l.getD i tx0) l,lsX l,csX t (fun i=>l.getD i tx0)⟩
def txT(t:Nd):Tx:=para txF t
/-! the program's way: a line feed ahead of each line -/
abbrev Bs:=List UInt8
def cut:Bs→Bs→Option Bs
 | [],s=>some s
 | _::_,[]=>none
 | a::p,b::s=>bif decide (a=b) then cut p s else none
def hd(s:Bs):UInt8:=s.headD 0
def wdF(s:Bs):Bs:=s.takeWhile alB
def wrF(s:Bs):Bs:=s.dropWhile alB
def dgB(c:UInt8):Bool:=digitB c.toNat
def nb(s:Bs):Bool:=!alB (hd s)
def cutOps:List Bs→Bs→Option (Bs×Bs)
 | [],_=>none
 | o::l,s=>match cut (o++[32]) s with
  | some r=>some (o,r)
  | none=>cutOps l s
def Jtf(s:Bs):Option (Bs×Bs):=match cut [32] s with
 | some r=>cutOps binOps r
 | none=>none
def nd(k:Int)(s:Bs)(n:Int)(ks:List Nd):Nd:=.mk k s n 0 ks ty0 0 0
inductive Md where
  | e|u|s (x:Nd)|a (l:List Nd)|b|l (l:List Nd)|t|i|c (l:List Nd)
def tyP(s:Bs):Option (Nd×Bs):=match cut [42] s with
 | some r=>some (nd 8 (wdF r) 0 [],wrF r)
 | none=>match cut [91,93,105,110,116] s with
  | some r=>some (nd 7 [91,93,105,110,116] 0 [],r)
  | none =>
   bif decide (wdF s=[99,104,97,110]) then (cut [32,105,110,116] (wrF s)).map fun r=>(nd 7 [99,104,97,110] 0 [],r)
   else bif decide (wdF s=[102,117,110,99]) then (cut [40,41] (wrF s)).map fun r=>(nd 7 [102,117,110,99] 0 [],r)
   else some (nd 7 (wdF s) 0 [],wrF s)
section
variable (p:Md→Bs→Option (Nd×Bs))
def atP(s:Bs):Option (Nd×Bs) :=
 match cut [40] s with
 | some r=>(p .e r).bind fun x=>(cut [41] x.2).map fun r=>(x.1,r)
 | none =>
  bif dgB (hd s) then some (nd 24 [] (valN 0 (s.takeWhile dgB)) [],s.dropWhile dgB)
  else bif decide (wdF s=[116,114,117,101]) then some (nd 25 [] 1 [],wrF s)
  else bif decide (wdF s=[102,97,108,115,101]) then some (nd 25 [] 0 [],wrF s)
  else bif decide (wdF s=[110,105,108]) then some (nd 26 [] 0 [],wrF s)
  else bif decide (wdF s=[110,101,119]) then (cut [40] (wrF s)).bind fun r=>(cut [41] (wrF r)).map fun r1=>(nd 34 (wdF r) 0 [],r1)
  else bif decide (wdF s=[109,97,107,101]) then
   match cut [40,91,93,105,110,116,44,32] (wrF s) with
   | some r=>(p .e r).bind fun x=>(cut [41] x.2).map fun r=>(nd 35 [] 0 [x.1],r)
   | none=>(cut [40,99,104,97,110,32,105,110,116,44,32] (wrF s)).bind fun r=>(p .e r).bind fun x=>(cut [41] x.2).map fun r=>(nd 36 [] 0 [x.1],r)
  else bif decide (wdF s=[108,101,110]) then (cut [40] (wrF s)).bind fun r=>(p .e r).bind fun x=>(cut [41] x.2).map fun r=>(nd 37 [] 0 [x.1],r)
  else bif decide (wdF s=[102,117,110,99]) then (cut [40,41,32,123,10] (wrF s)).bind fun r=>(p .b r).map fun x=>(nd 38 [] 0 [x.1],x.2)
  else some (nd 27 (wdF s) 0 [],wrF s)
def unP(s:Bs):Option (Nd×Bs) :=
 match cut [45] s with
 | some r=>(p .u r).map fun x=>(nd 31 [45] 0 [x.1],x.2)
 | none=>match cut [33] s with
  | some r=>(p .u r).map fun x=>(nd 31 [33] 0 [x.1],x.2)
  | none=>match cut [60,45] s with
   | some r=>(p .u r).map fun x=>(nd 33 [] 0 [x.1],x.2)
   | none=>(atP p s).bind fun x=>p (.s x.1) x.2
def exP(s:Bs):Option (Nd×Bs):=(p .u s).bind fun x=>match Jtf x.2 with
 | some o=>(p .u o.2).map fun y=>(nd 32 o.1 0 [x.1,y.1],y.2)
 | none=>some x
def sfP(x:Nd)(s:Bs):Option (Nd×Bs) :=
 match cut [46] s with
 | some r=>p (.s (nd 28 (wdF r) 0 [x])) (wrF r)
 | none=>match cut [91] s with
  | some r=>(p .e r).bind fun y=>(cut [93] y.2).bind fun r=>p (.s (nd 29 [] 0 [x,y.1])) r
  | none=>match cut [40] s with
   | some r=>(p (.a []) r).bind fun l=>p (.s (nd 30 [] 0 (x::l.1.kids))) l.2
   | none=>some (x,s)
def arP(l:List Nd)(s:Bs):Option (Nd×Bs) :=
 match cut [41] s with
 | some r=>some (nd 0 [] 0 l,r)
 | none=>(p .e s).bind fun x=>match cut [44,32] x.2 with
  | some r=>p (.a (l++[x.1])) r
  | none=>(cut [41] x.2).map fun r=>(nd 0 [] 0 (l++[x.1]),r)
def tabsP(s:Bs):Bs:=s.dropWhile fun c=>decide (c=9)
def stopB(s:Bs):Bool:=decide (hd s=125) || anyS [[99,97,115,101],[100,101,102,97,117,108,116]] (wdF s)
def lnP(l:List Nd)(s:Bs):Option (Nd×Bs) :=
 bif stopB (tabsP s) then some (nd 10 [] 0 l,tabsP s)
 else (p .t (tabsP s)).bind fun x=>(cut [10] x.2).bind fun r=>p (.l (l++[x.1])) r
def blP'(s:Bs):Option (Nd×Bs):=(p (.l []) s).bind fun x=>(cut [125] x.2).map fun r=>(x.1,r)
def brP(s:Bs):Option (Nd×Bs):=(cut [123,10] s).bind fun r=>p .b r
def ifP(s:Bs):Option (Nd×Bs):=(p .e s).bind fun x=>(cut [32] x.2).bind fun r=>(brP p r).bind fun y =>
 match cut [32,101,108,115,101,32,105,102,32] y.2 with
 | some r=>(p .i r).map fun z=>(nd 18 [] 0 [x.1,y.1,z.1],z.2)
 | none=>match cut [32,101,108,115,101,32] y.2 with
  | some r=>(brP p r).map fun z=>(nd 18 [] 0 [x.1,y.1,z.1],z.2)
  | none=>some (nd 18 [] 0 [x.1,y.1,nd 9 [] 0 []],y.2)
def csP(l:List Nd)(s:Bs):Option (Nd×Bs) :=
 match cut [125] (tabsP s) with
 | some r=>some (nd 22 [] 0 l,r)
 | none=>match cut [100,101,102,97,117,108,116,58,10] (tabsP s) with
  | some r=>(p (.l []) r).bind fun b=>p (.c (l++[nd 23 [] 0 [nd 9 [] 0 [],b.1]])) b.2
  | none=>(cut [99,97,115,101,32] (tabsP s)).bind fun r=>(p .t r).bind fun x=>(cut [58,10] x.2).bind fun r=>(p (.l []) r).bind fun b=>p (.c (l++[nd 23 [] 0 [x.1,b.1]])) b.2
def oneP(k:Int)(s:Bs):Option (Nd×Bs):=(cut [40] s).bind fun r=>(p .e r).bind fun x=>(cut [41] x.2).map fun r=>(nd k [] 0 [x.1],r)
def spP(k:Int)(s:Bs):Option (Nd×Bs):=(cut [32] s).bind fun r=>(p .e r).map fun x=>(nd k [] 0 [x.1],x.2)
def varP(s:Bs):Option (Nd×Bs):=(cut [32] s).bind fun r=>(cut [32] (wrF r)).bind fun r1=>(tyP r1).bind fun y =>
 match cut [32,61,32] y.2 with
 | some r2=>(p .e r2).map fun z=>(nd 6 (wdF r) 0 [y.1,z.1],z.2)
 | none=>some (nd 6 (wdF r) 0 [y.1,nd 9 [] 0 []],y.2)
def simP(s:Bs):Option (Nd×Bs):=(p .e s).bind fun x =>
 match cut [32,58,61,32] x.2 with
 | some r=>(p .e r).map fun y=>(nd 11 x.1.text 0 [y.1],y.2)
 | none=>match cut [32,61,32] x.2 with
  | some r=>(p .e r).map fun y=>(nd 12 [] 0 [x.1,y.1],y.2)
  | none=>match cut [32,60,45,32] x.2 with
   | some r=>(p .e r).map fun y=>(nd 16 [] 0 [x.1,y.1],y.2)
   | none=>some (nd 13 [] 0 [x.1],x.2)
def stP(s:Bs):Option (Nd×Bs) :=
 match cut [123,10] s with
 | some r=>p .b r
 | none =>
  bif decide (wdF s=[118,97,114]) then varP p (wrF s)
  else bif decide (wdF s=[103,111]) then spP p 14 (wrF s)
  else bif decide (wdF s=[100,101,102,101,114]) then spP p 15 (wrF s)
  else bif decide (wdF s=[99,108,111,115,101]) then oneP p 17 (wrF s)
  else bif decide (wdF s=[112,114,105,110,116]) then oneP p 21 (wrF s)
  else bif decide (wdF s=[105,102]) then (cut [32] (wrF s)).bind fun r=>p .i r
  else bif decide (wdF s=[115,101,108,101,99,116]) then (cut [32,123,10] (wrF s)).bind fun r=>p (.c []) r
  else bif decide (wdF s=[114,101,116,117,114,110]) then match cut [32] (wrF s) with
   | some r=>(p .e r).map fun x=>(nd 20 [] 0 [x.1],x.2)
   | none=>some (nd 20 [] 0 [],wrF s)
  else bif decide (wdF s=[102,111,114]) then match cut [32,123,10] (wrF s) with
   | some r=>(p .b r).map fun x=>(nd 19 [] 0 [nd 9 [] 0 [],x.1],x.2)
   | none=>(cut [32] (wrF s)).bind fun r=>(p .e r).bind fun x=>(cut [32] x.2).bind fun r=>(brP p r).map fun y=>(nd 19 [] 0 [x.1,y.1],y.2)
  else simP p s
def stepP:Md→Bs→Option (Nd×Bs)
 | .e,s=>exP p s
 | .u,s=>unP p s
 | .s x,s=>sfP p x s
 | .a l,s=>arP p l s
 | .b,s=>blP' p s
 | .l l,s=>lnP p l s
 | .t,s=>stP p s
 | .i,s=>ifP p s
 | .c l,s=>csP p l s
end
def pG:Nat→Md→Bs→Option (Nd×Bs)
 | 0=>fun _ _=>none
 | f+1=>stepP (pG f)
section
variable {t:Nd} {x:Nat→Tx} {l:List Tx} {k:Nat}
end
def stW:List Bs:=[[118,97,114],[103,111],[100,101,102,101,114],[99,108,111,115,101],[112,114,105,110,116],[105,102],[115,101,108,101,99,116],[114,101,116,117,114,110],[102,111,114],[99,97,115,101],[100,101,102,97,117,108,116]]
def opn(c:UInt8):Bool:=alB c || (decide (c=40) || (decide (c=45) || (decide (c=33) || decide (c=60))))
structure Hx (s:Bs):Prop where
  o:opn (hd s)=true
  w:anyS stW (wdF s)=false
theorem kids1{t:Nd}(h:t.kids.length=1):t.kids=[Zb t 0]:=by
 match hk:t.kids with
 | [a]=>rw [Zb,hk];rfl
 | []=>rw [hk] at h;cases h
 | _::_::_=>rw [hk] at h;simp at h
theorem kids3{t:Nd}(h:t.kids.length=3):t.kids=[Zb t 0,Zb t 1,Zb t 2]:=by
 match hk:t.kids with
 | [a,b,c]=>rw [Zb,Zb,Zb,hk];rfl
 | []=>rw [hk] at h;cases h
 | [_]=>rw [hk] at h;cases h
 | [_,_]=>rw [hk] at h;cases h
 | _::_::_::_::_=>rw [hk] at h;simp at h
theorem cn3{t:Nd}(h:t.kids.length=3):count t=1+count (Zb t 0)+count (Zb t 1)+count (Zb t 2):=by rw [Qi,kids3 h];simp;omega
theorem Yog{s:Bs}(h:opn (hd s)=true){c:UInt8}(hc:opn c=false):hd s≠c:=fun e=>by rw [e,hc] at h;cases h
theorem Hx.ne{s:Bs}(h:Hx s){c:UInt8}(hc:opn c=false):hd s≠c:=Yog h.o hc
def folB(r:Bs):Bool:=nb r&&(decide (hd r≠46)&&(decide (hd r≠91)&&decide (hd r≠40)))
structure Rx (t:Nd):Prop where
  e:exprB t=true→∀ k r f,folB r=true→Jtf r=none→10*count t≤f+2→pG f .e ((txT t).ex k++r)=some (stripT t,r)
  u:exprB t=true→t.kind≠32→∀ k r f,folB r=true→10*count t≤f+3→pG f .u ((txT t).ex k++r)=some (stripT t,r)
  s:exprB t=true→t.kind≠31→t.kind≠32→t.kind≠33→∀ k r f,nb r=true→10*count t≤f+4→∃ f',f+4≤f'+10*count t∧pG f .u ((txT t).ex k++r)=pG f' (.s (stripT t)) r
  b:blockB t=true→∀ k r f,10*count t≤f+2→pG f .b (((txT t).ls (k+1)++tabsL k)++([125]++r))=some (stripT t,r)
section
variable {p:Md→Bs→Option (Nd×Bs)}
end
def KdX(lo:Nat)(X:List Nat)(w:Aa)(ks:List Nd)(v:Fa):Prop:=Kd w (fun k=>(lo≤k∧k∉X)∧NdR w k) ks v
section
variable {lo lo' n0 j b:Nat} {X:List Nat} {w w':Aa} {ks:List Nd} {v:Fa}
theorem KdN.x(h:KdN lo w ks v)(hX:∀ j∈X,j<lo):KdX lo X w ks v:=Kd.mono h fun k hk _=>⟨⟨hk.1,fun hm=>by have:=hX k hm;omega⟩,hk.2⟩
theorem KdX.kdN(h:KdX lo X w ks v)(hl:lo'≤lo):KdN lo' w ks v:=Kd.mono h fun k hk _=>⟨Aea hl hk.1.1,hk.2⟩
theorem KdX.grow(h:KdX lo X w ks v)(g:G w w'):KdX lo X w' ks v:=Wp h (fun k hk _=>⟨hk.1,hk.2.grow g⟩) fun k hk hlt=>g.block hlt
theorem KdX.gt(h:KdX lo X w ks v)(g:GT mutR n0 w w'):KdX lo X w' ks v:=Wp h (fun k hk _=>⟨hk.1,hk.2.gt g rfl⟩) fun k hk hlt=>g.block k hlt (.inr (hk.2.ntyr rfl))
theorem KdX.keep(h:KdX lo X w ks v)(hg:w.grownBy w' (some j))(hj:j<lo∨j∈X):KdX lo X w' ks v:=by
 have hne:∀ k,(lo≤k∧k∉X)→k≠j:=fun k hk e=>by
  subst e;rcases hj with hj|hj;omega;exact hk.2 hj
 have hs:∀ k,(lo≤k∧k∉X)→k<w.heap.size→w'.heap[k]? = w.heap[k]?:=fun k hk hlt=>hg.block k hlt fun e=>by injection e with e;exact hne k hk e
 exact Wp h (fun k hk hlt=>⟨hk.1,hk.2.same (hs k hk.1 hlt)⟩) fun k hk hlt=>hs k hk.1 hlt
theorem KdX.new{e:Ba}{l:List Fa}(h:KdX lo X w ks v)(N:New w w' b e l):KdX lo (b::X) w' ks v:=by
 have:=N.at_
 exact Wp h (fun k hk hlt=>⟨⟨hk.1.1,fun hm=>by
  rcases Aia.1 hm with e|e;omega;exact hk.1.2 e⟩,hk.2.grow N.g⟩) fun k hk hlt=>N.g.block hlt
theorem KdX.keepb{e:Ba}{l:List Fa}(h:KdX lo X w ks v)(hg:w.grownBy w' (some j))(hB:Blk w j e l)(he:Ada e 26=false):KdX lo X w' ks v:=by
 have hne:∀ k,NdR w k→k≠j:=fun k ⟨cs,fr,hk⟩ q=>by
  subst q;unfold Blk at hB;rw [hB] at hk;injection hk with hk;injection hk with _ hk;subst hk;simp at he
 exact Wp h (fun k hk hlt=>⟨hk.1,hk.2.same (hg.block k hlt fun e=>by injection e with e;exact hne k hk.2 e)⟩) fun k hk hlt=>hg.block k hlt fun e=>by injection e with e;exact hne k hk.2 e
end
theorem OwnN.keept{Y:List Nat}{lo:Nat}{w w':Aa}{ks:List Nd}{s:Fa}{j:Nat}{e:Ba}{l:List Fa}(h:OwnN Y lo w ks s)(hg:w.grownBy w' (some j))(hB:Blk w j e l)(he:Ada e 26=false):OwnN Y lo w' ks s:=by
 have hne:∀ k,NdR w k→k≠j:=fun k ⟨cs,fr,hk⟩ q=>by
  subst q;unfold Blk at hB;rw [hB] at hk;injection hk with hk;injection hk with _ hk;subst hk;simp at he
 have hnd:=h.nd;exact Zhb h (fun k hk hlt=>⟨hk.1,hk.2.same (hg.block k hlt fun e=>by injection e with e;exact hne k hk.2 e)⟩) (fun k hk hlt=>hg.block k hlt fun e=>by injection e with e;exact hne k hk.2 e) fun xs h'=>Ym h' hg (.inr fun e=>hne j (hnd j e) rfl)
theorem Vt{lo m0:Nat}{X Y:List Nat}{w:Aa}{t:Nd}{v s:Fa}(h:KdX lo X w t.kids v)(hm:m0≤lo)(hY:∀ j∈Y,j∈X∨j<lo)(hs:∀ j,s.ownBlock=some j→j∈X∨j<lo):KRow w (fun k=>(Dx m0 Y k∧NdR w k)∧some k≠s.ownBlock) [t] (ndCells t v):=by
 refine Vd (Kd.mono h fun k hk _=>⟨⟨⟨Aea hm hk.1.1,fun hy=>?_⟩,hk.2⟩,fun e=>?_⟩);rcases hY k hy with q|q;exact hk.1.2 q;have:=hk.1.1;omega;rcases hs k e.symm with q|q;exact hk.1.2 q;have:=hk.1.1;omega
@[reducible] def gtR(n0:Nat):RelX:=⟨fun w w'=>GT mutR n0 w w',GT.refl mutR n0,fun h k=>GT.trans h k⟩
theorem Vu{w:Aa}{D:Nat→Prop}{t:Nd}{p:Option Addr}{c:Nat}(hk:Kd w D t.kids (.slice p t.kids.length c)){i:Nat}(h:i<t.kids.length):D (pb p):=by
 obtain ⟨p',c',hpe,_,hks⟩:=hk;injection hpe with hpe _ hce;subst hpe hce;obtain ⟨b2,o2,rfl,hD,_⟩:=hks O;exact hD
theorem Xp{t:Nd}{lo:Nat}{r v:Fa}{w:Aa}(e:r=ndV t v)(h:KdN lo w t.kids v):RetN t lo r w:=e▸Yzd h
def CkM'(M:Nat)(F:Nd)(fn:FuncId)(t:Nd)(X:CSt→Nd×CSt):Prop:=∀ {n0 b:Nat} {S:CSt} {w:Aa} {v:Fa} {N:Nat},Chk F n0 b S w→Kd w (fun k=>k<n0) t.kids v→Bd S N→N+count t≤M→
 Ret PP fn #[.pointer (some ⟨b,0,none⟩),ndV t v] w fun r w'=>RetN (X S).1 w.heap.size r w'∧Chk F n0 b (X S).2 w'∧GT mutR n0 w w'
abbrev CkC:=CkM' 1000000
theorem CkC.to{M:Nat}{F:Nd}{fn:FuncId}{t:Nd}{X:CSt→Nd×CSt}(H:CkM' M F fn t X){n0 b:Nat}{S:CSt}{w:Aa}{v:Fa}{N m0:Nat}(Z:List Nat)(h:Chk F n0 b S w)(hk:Kd w (fun k=>k<n0) t.kids v)(hb:Bd S N)(hc:N+count t≤M)(hZ:∀ j∈Z,j<w.heap.size)(hm:m0≤w.heap.size) :
 Ret PP fn #[.pointer (some ⟨b,0,none⟩),ndV t v] w fun r w'=>(∃ p c,r=ndV (X S).1 (.slice p (X S).1.kids.length c)∧m0≤w.heap.size∧KdX w.heap.size Z w' (X S).1.kids (.slice p (X S).1.kids.length c))∧Chk F n0 b (X S).2 w'∧GT mutR n0 w w' :=
 (H h hk hb hc).mono fun r w' hr=>by
 obtain ⟨⟨p,c,e,k⟩,h1,h2⟩:=hr;exact ⟨⟨p,c,e,hm,KdN.x k hZ⟩,h1,h2⟩
def CkM(F:Nd)(t:Nd):Prop:=∀ {n0 b:Nat} {S:CSt} {w:Aa} {v:Fa} {N:Nat},Chk F n0 b S w→Kd w (fun k=>k<n0) t.kids v→Bd S N→N+count t≤1000000→
 Ret PP 148 #[.pointer (some ⟨b,0,none⟩),ndV t v] w fun r w'=>(∃ u,r = .tuple #[u,.bool ((ckT F t).mem S).1.2]∧RetN ((ckT F t).mem S).1.1 w.heap.size u w')∧Chk F n0 b ((ckT F t).mem S).2 w'∧GT mutR n0 w w'
def CkR(F:Nd)(t:Nd):Prop:=∀ {n0 b:Nat} {S:CSt} {w:Aa} {v:Fa} {N:Nat},Chk F n0 b S w→Kd w (fun k=>k<n0) t.kids v→Bd S N→N+count t≤1000000→
 Ret PP 172 #[.pointer (some ⟨b,0,none⟩),ndV t v] w fun r w'=>(∃ u,r = .tuple #[u,.bool ((ckT F t).rcv S).2]∧RetN ((ckT F t).rcv S).1 w.heap.size u w')∧G w w'
def RowT(w:Aa)(l:List Ty)(v:Fa):Prop:=∃ p c,v = .slice p l.length c∧(0<l.length→∃ b o cs fr,p=some ⟨b,o,none⟩∧w.heap[b]? = some (.cells cs 24 fr)∧RowAt w b o (l.flatMap tyCells))
def CkL(F:Nd)(t:Nd):Prop:=∀ {n0 b:Nat} {S:CSt} {w:Aa} {v:Fa} {N:Nat},Chk F n0 b S w→Kd w (fun k=>k<n0) t.kids v→Bd S N→N+count t≤1000000→
 Ret PP 162 #[.pointer (some ⟨b,0,none⟩),ndV t v] w fun r w'=>(∃ u l,r = .tuple #[u,l,tyV ((ckT F t).cal S).1.2.2]∧RetN ((ckT F t).cal S).1.1 w.heap.size u w'∧RowT w' ((ckT F t).cal S).1.2.1 l)∧Chk F n0 b ((ckT F t).cal S).2 w'∧GT mutR n0 w w'
structure CkOk (F t:Nd):Prop where
  ex:exprB t=true→CkC F 121 t (ckT F t).ex
  st:stmtB t=true→CkC F 88 t (ckT F t).st
  blk:blockB t=true→CkC F 117 t (ckT F t).blk
  sts:blockB t=true→CkM' 1000001 F 64 t (ckT F t).sts
  ifs:ifB t=true→CkC F 118 t (ckT F t).ifs
  mem:exprB t=true→t.kind=28→CkM F t
  rcv:exprB t=true→CkR F t
  cal:exprB t=true→CkL F t
def pvCells(v:Vr):List Fa:=[Str v.name,.int .i64 v.typ.kind,Str v.typ.name,.int .i64 v.num,.int .i64 v.level]
theorem Vtc(v:Vr):(pvCells v).length=5:=rfl
structure ScR (tv:Ba) (n0:Nat) (w:Aa) (vs:List Fa) (sc:List (List Vr)):Prop where
  len:vs.length=sc.length
  row:∀ (i:Nat) (v:Fa) (l:List Vr),vs[i]? = some v→sc[i]? = some l→w.ownsRow n0 tv 5 v l.length (l.flatMap pvCells)
  dis:∀ (i j:Nat) (v u:Fa),vs[i]? = some v→vs[j]? = some u→i≠j→v.ownBlock=none∨v.ownBlock≠u.ownBlock
section
variable {tv:Ba} {n0:Nat} {w w':Aa} {vs:List Fa} {sc:List (List Vr)}
theorem ScR.at(h:ScR tv n0 w vs sc){i:Nat}(hi:i<sc.length):∃ v,vs[i]? = some v∧w.ownsRow n0 tv 5 v sc[i].length (sc[i].flatMap pvCells):=by
 have hv:i<vs.length:=by rw [h.len];exact hi
 exact ⟨vs[i],Afa hv,h.row i _ _ (Afa hv) (Afa hi)⟩
theorem ScR.ex(h:ScR tv n0 w vs sc){i:Nat}{v:Fa}(hv:vs[i]? = some v):∃ l,sc[i]? = some l∧w.ownsRow n0 tv 5 v l.length (l.flatMap pvCells):=by
 have hi:i<sc.length:=by rw [← h.len];exact (List.getElem?_eq_some_iff.1 hv).1
 exact ⟨sc[i],Afa hi,h.row i _ _ hv (Afa hi)⟩
theorem ScR.same(h:ScR tv n0 w vs sc)(hs:∀ (i:Nat) (v:Fa),vs[i]? = some v→∀ k,v.ownBlock=some k→w'.heap[k]? = w.heap[k]?):ScR tv n0 w' vs sc :=
 ⟨h.len,fun i v l hv hl=>Zib (h.row i v l hv hl) (hs i v hv),h.dis⟩
theorem ScR.lt(h:ScR tv n0 w vs sc){i:Nat}{v:Fa}(hv:vs[i]? = some v):∀ k,v.ownBlock=some k→n0≤k∧k<w.heap.size:=by
 obtain ⟨l,_,hr⟩:=h.ex hv;exact hr.lt
theorem ScR.grow(h:ScR tv n0 w vs sc)(g:G w w'):ScR tv n0 w' vs sc:=h.same fun i v hv k hk=>g.block (h.lt hv k hk).2
theorem ScR.keep(h:ScR tv n0 w vs sc){row:Option Nat}(hg:w.grownBy w' row)(hr:∀ k,row=some k→¬ TyR (fun e _=>Ada e tv) w k):ScR tv n0 w' vs sc:=h.same fun i v hv k hk=>by
 obtain ⟨l,_,ho⟩:=h.ex hv;refine hg.block k (h.lt hv k hk).2 fun e=>hr k e.symm ?_;rcases ho.2 with ⟨h1,_⟩|⟨g,cap,cur,h1,h2,h3,_⟩;rw [h1] at hk;cases hk;rw [h1] at hk;have:g=k:=by injection hk
 subst this;exact ⟨_,_,_,h3,Nat.beq_refl _⟩
theorem ScR.push(h:ScR tv n0 w vs sc):ScR tv n0 w (vs++[.slice none 0 0]) (sc++[[]]):=by
 refine ⟨by rw [Aga,Aga,h.len];rfl,fun i v l hv hl=>?_,fun i j v u hv hu hij=>?_⟩;rcases Nat.lt_trichotomy i vs.length with q|q|q;rw [Ana q] at hv;rw [Ana (by rw [← h.len];exact q)] at hl;exact h.row i v l hv hl;subst q;rw [Aoa (Aba _),Ava] at hv;rw [h.len,Aoa (Aba _),Ava] at hl;injection hv with hv;injection hl with hl;subst hv hl;exact Je _ _ _ _;rw [Apa (by rw [Aga];show vs.length+1≤i;omega)] at hv;cases hv
 have one:∀ (i:Nat) (v:Fa),(vs++[Value.slice none 0 0])[i]? = some v→v = .slice none 0 0∨(i<vs.length∧vs[i]? = some v):=fun i v hv=>by
  rcases Nat.lt_trichotomy i vs.length with q|q|q;rw [Ana q] at hv;exact .inr ⟨q,hv⟩;subst q;rw [Aoa (Aba _),Ava] at hv;injection hv with hv;exact .inl hv.symm;rw [Apa (by rw [Aga];show vs.length+1≤i;omega)] at hv;cases hv
 rcases one i v hv with q|⟨_,q⟩;subst q;exact .inl rfl;rcases one j u hu with q'|⟨_,q'⟩;subst q'
 cases hb:v.ownBlock with
 | none=>exact .inl rfl
 | some k=>exact .inr (fun e=>by cases e)
 exact h.dis i j v u q q' hij
theorem ScR.pop(h:ScR tv n0 w vs sc)(n:Nat):ScR tv n0 w (vs.take n) (sc.take n):=by
 have t:∀ {α:Type} (l:List α) (i:Nat) (a:α),(l.take n)[i]? = some a→l[i]? = some a:=fun l i a hl=>by
  rw [Aqa] at hl;split at hl;exact hl;cases hl
 exact ⟨by rw [Ara,Ara,h.len],fun i v l hv hl=>h.row i v l (t _ _ _ hv) (t _ _ _ hl),fun i j v u hv hu hij=>h.dis i j v u (t _ _ _ hv) (t _ _ _ hu) hij⟩
theorem ScR.set(h:ScR tv n0 w vs sc){i:Nat}{v v':Fa}{l':List Vr}(hv:vs[i]? = some v)(hg:w.grownBy w' v.ownBlock)(ho:w'.ownsRow n0 tv 5 v' l'.length (l'.flatMap pvCells))
 (hat:∀ k,v'.ownBlock=some k→v.ownBlock=some k∨w.heap.size≤k):ScR tv n0 w' (vs.set i v') (sc.set i l'):=by
 have hi:i<vs.length:=(List.getElem?_eq_some_iff.1 hv).1
 have ot:∀ (j:Nat) (u:Fa),j≠i→vs[j]? = some u→v'.ownBlock=none∨v'.ownBlock≠u.ownBlock:=fun j u hj hu=>by
  cases hb:v'.ownBlock with
  | none=>exact .inl rfl
  | some k =>
   refine .inr fun e=>?_;rcases hat k hb with q|q;rcases h.dis i j v u hv hu (Ne.symm hj) with z|z;rw [z] at q;cases q;exact z (q.trans e);have:=(h.lt hu k e.symm).2;omega
 refine ⟨by rw [List.length_set,List.length_set,h.len],fun j u l hu hl=>?_,fun j k u z hu hz hjk=>?_⟩;by_cases hj:i=j;subst hj;rw [Awa hi] at hu;rw [Awa (by rw [← h.len];exact hi)] at hl;injection hu with hu;injection hl with hl;subst hu hl;exact ho;rw [Axa hj] at hu hl;refine Zib (h.row j u l hu hl) fun k hk=>hg.block k (h.lt hu k hk).2 fun e=>?_;rcases h.dis j i u v hu hv (Ne.symm hj) with q|q;rw [q] at hk;cases hk;exact q (hk.trans e);by_cases hj:i=j;subst hj;rw [Awa hi] at hu;rw [Axa hjk] at hz;injection hu with hu;subst hu;exact ot k z (Ne.symm hjk) hz;rw [Axa hj] at hu;by_cases hk:i=k;subst hk;rw [Awa hi] at hz;injection hz with hz;subst hz;rcases ot j u (Ne.symm hj) hu with q|q
 cases hb:u.ownBlock with
 | none=>exact .inl rfl
 | some b=>exact .inr (fun e=>by rw [q] at e;cases e)
 exact .inr (Ne.symm q);rw [Axa hk] at hz;exact h.dis j k u z hu hz hjk
end
set_option maxHeartbeats 1000000
def ckY(F t:Nd)(i:Nat):Ck:=ckT F (Zb t i)
set_option maxHeartbeats 1000000
theorem Jud{F t:Nd}(S:CSt):∀ i,i≤t.kids.length→stA (ckX F t) S i=stA (ckY F t) S i
 | 0,_=>rfl
 | i+1,h=>by
  rw [stA,stA,Jud S i O,Wl (show i<t.kids.length by omega)];rfl
theorem Yze(x:Nat→Ck)(S:CSt):∀ i,(stA x S i).1.length=i
 | 0=>rfl
 | i+1=>by
  show ((stA x S i).1++[_]).length=_;rw [Aga,Yze x S i];rfl
theorem Zwf{F t:Nd}(S:CSt)(i:Nat)(h:i≤t.kids.length):Stp (sC t i) S (stA (ckY F t) S i).2:=by
 rw [← Jud S i h];exact Ysd (Xzb F t) S i
set_option maxHeartbeats 1000000
theorem KdX.low{lo lo':Nat}{X:List Nat}{w:Aa}{ks:List Nd}{v:Fa}(h:KdX lo X w ks v)(hl:lo'≤lo):KdX lo' X w ks v:=Kd.mono h fun k hk _=>⟨⟨Aea hl hk.1.1,hk.1.2⟩,hk.2⟩
set_option maxHeartbeats 2000000
theorem CkM.to{F t:Nd}(H:CkM F t){n0 b:Nat}{S:CSt}{w:Aa}{v:Fa}{N m0:Nat}(Z:List Nat)(h:Chk F n0 b S w)(hk:Kd w (fun k=>k<n0) t.kids v)(hb:Bd S N)(hc:N+count t≤1000000)(hZ:∀ j∈Z,j<w.heap.size)(hm:m0≤w.heap.size) :
 Ret PP 148 #[.pointer (some ⟨b,0,none⟩),ndV t v] w fun r w'=>(∃ p c,r = .tuple #[ndV ((ckT F t).mem S).1.1 (.slice p ((ckT F t).mem S).1.1.kids.length c),.bool ((ckT F t).mem S).1.2]∧m0≤w.heap.size∧KdX w.heap.size Z w' ((ckT F t).mem S).1.1.kids (.slice p ((ckT F t).mem S).1.1.kids.length c))∧Chk F n0 b ((ckT F t).mem S).2 w'∧GT mutR n0 w w' :=
 (H h hk hb hc).mono fun r w' hr=>by
 obtain ⟨⟨u,e,p,c,e2,k⟩,h1,h2⟩:=hr;subst e2;exact ⟨⟨p,c,e,hm,KdN.x k hZ⟩,h1,h2⟩
def Byt(w:Aa)(b:Nat)(e:Ba)(l:List UInt8):Prop:=∃ cs lo hi,w.heap[b]? = some (.cells cs e (lo,hi))∧(∀ (j:Nat) (v:Fa),(Lib.byteCells l)[j]? = some v→cs[j]? = some v)∧(hi=0∨l.length≤lo)
theorem Byt.row{w:Aa}{b:Nat}{e:Ba}{l:List UInt8}(h:Byt w b e l):RowAt w b 0 (Lib.byteCells l):=by
 obtain ⟨cs,lo,hi,hb,hc,_⟩:=h;intro j v hj;rw [Aha];simp [World.cell?,hb,hc j v hj]
theorem Byt.lt{w:Aa}{b:Nat}{e:Ba}{l:List UInt8}(h:Byt w b e l):b<w.heap.size:=by
 obtain ⟨cs,lo,hi,hb,_⟩:=h;exact (Array.getElem?_eq_some_iff.mp hb).1
theorem Byt.keep{w w1:Aa}{b:Nat}{e:Ba}{l:List UInt8}{row:Option Nat}(h:Byt w b e l)(hg:w.grownBy w1 row)(hne:some b≠row):Byt w1 b e l:=by
 have hlt:=h.lt;obtain ⟨cs,lo,hi,hb,hc,hf⟩:=h;exact ⟨cs,lo,hi,by obtain ⟨_,_,_,_,ho⟩:=hg;rw [ho b hlt hne];exact hb,hc,hf⟩
theorem Byt.grow{w w1:Aa}{b:Nat}{e:Ba}{l:List UInt8}(h:Byt w b e l)(hg:G w w1):Byt w1 b e l:=h.keep (hg.only none) (by intro e;cases e)
section
variable {P:Ea} {n:Nat} {σ:List Ent} {c:Prop} {wb:Aa} {ty:Ba}
end
section
variable {P:Ea} {Z:List Da→Act→Aa→Prop} {ops:List Oper} {cl:List Nat} {lv:List Bool} {W0:Aa} {n:Nat} {K:Act→Aa→Prop} {k:Nat} {rest:List Oper} {σ:List Ent} {w:Aa} {d:Nat} {ty:Ba} {pos:String} {after:Array Edge}
theorem Jjc{t e z by_:Nat}(hb:(!Ada (clOf cl k) 0 && !Ada (clOf cl k) 3&&Nat.blt d n)=true)(ht:tyElem P t=some (e,z,by_))
 (h:∀ b w1,b=w.heap.size→(∀ base,base≤w.heap.size→w1.ownsRow base e z (.slice (some ⟨b,0,none⟩) 0 0) 0 [])→G w w1→SR P Z ops cl lv W0 n K (k+1) rest ((d,True,.slice (some ⟨b,0,none⟩) 0 0) :: σ) w1) :
 SR P Z ops cl lv W0 n K k (⟨some d,.buildSlice t 0 #[],ty,pos,after,none⟩::rest) σ w:=by
 obtain ⟨hu,i,hi,hsz,hbyi⟩:=Ue ht;have hN:=Zaa w e [];refine Umb hb (w':=w.alloc (.cells #[] e)) (fun d pos after g a ha _=>?_) (fun _=>hN.g) (h _ _ J (fun base hbase=>World.ownsRow_lit w #[] 0 hbase (Aka _) Os) hN.g);have hr0:Array.range 0 = #[]:=by decide
 simp [execOp,Instr.buildSlice,run_underlying hu,Yzb hi,Instr.fill,newRow,hr0]
theorem Jvd{t e z by_ m q cp b:Nat}{x y:Operand}{o:Option Addr}(hb:(Ada (clOf cl k) 2&&Nat.blt d n)=true)(ht:tyElem P t=some (e,z,by_))(hx:Ev n σ True x (.slice (some ⟨b,0,none⟩) m cp))(hm:m≤cp)(hy:Ev n σ True y (.slice o 0 q))
 (h:SR P Z ops cl lv W0 n K (k+1) rest ((d,True,.slice (some ⟨b,0,none⟩) m cp) :: σ) w) :
 SR P Z ops cl lv W0 n K k (⟨some d,.call { callee:=.builtin .append,args:=#[x,y],argTypes:=#[t,t] },ty,pos,after,none⟩::rest) σ w:=by
 obtain ⟨hu,i,hi,hsz,hbyi⟩:=Ue ht;simp only [Aaa] at hb;have hc:=Asa hb.1;refine Umb (w':=w) (by rw [hc,hb.2];rfl) (fun d pos after g a ha _=>?_) (fun hh=>O) h
 have hr:(Builtin.append_ #[t,t] ty #[.slice (some ⟨b,0,none⟩) m cp,.slice o 0 q]).run P w = .ok (.slice (some ⟨b,0,none⟩) m cp) w:=by
  cases o <;> simp [Builtin.append_,run_underlying hu,Yzb hi,Builtin.lenOf,Builtin.firstCells,hm,loadCells,loadCellsFrom,storeCells]
 simp only [execOp,resolve,invoke,builtin,Sem.run_bind,Sem.run_pure,Result.andThen_ok,List.map_toArray,Aya,Aza,hx a ha trivial,hy a ha trivial,hr]
end
set_option maxHeartbeats 2000000
set_option maxHeartbeats 2000000
def RowX(lo:Nat)(X:List Nat)(w:Aa)(l:List Ty)(v:Fa):Prop:=∃ p c,v = .slice p l.length c∧(0<l.length→∃ b o cs fr,p=some ⟨b,o,none⟩∧(lo≤b∧b∉X)∧w.heap[b]? = some (.cells cs 24 fr)∧RowAt w b o (l.flatMap tyCells))
section
variable {lo lo' n0 j b:Nat} {X:List Nat} {w w':Aa} {l:List Ty} {v:Fa}
theorem RowX.same(h:RowX lo X w l v){X':List Nat}(hs:∀ b,b<w.heap.size→(∃ cs fr,w.heap[b]? = some (.cells cs 24 fr))→lo≤b→b∉X→b∉X'∧w'.heap[b]? = w.heap[b]?):RowX lo X' w' l v:=by
 obtain ⟨p,c,rfl,h⟩:=h;refine ⟨p,c,rfl,fun h0=>?_⟩;obtain ⟨b,o,cs,fr,rfl,hb,hh,hR⟩:=h h0;obtain ⟨q1,q2⟩:=hs b (Array.getElem?_eq_some_iff.1 hh).1 ⟨cs,fr,hh⟩ hb.1 hb.2;exact ⟨b,o,cs,fr,rfl,⟨hb.1,q1⟩,q2.trans hh,fun i v hi=>(Ha q2).trans (hR i v hi)⟩
theorem RowX.grow(h:RowX lo X w l v)(g:G w w'):RowX lo X w' l v:=h.same fun b hlt _ _ hx=>⟨hx,g.block hlt⟩
theorem RowX.gt(h:RowX lo X w l v)(g:GT mutR n0 w w'):RowX lo X w' l v:=h.same fun b hlt ⟨cs,fr,hh⟩ _ hx=>⟨hx,g.block b hlt (.inr fun ⟨cs',f',fr',h1,h2⟩=>by
 rw [hh] at h1;injection h1 with h1;injection h1 with _ h1;subst h1;exact absurd h2 Bool.false_ne_true)⟩
theorem RowX.keep(h:RowX lo X w l v)(hg:w.grownBy w' (some j))(hj:j<lo∨j∈X):RowX lo X w' l v:=h.same fun b hlt _ hl hx=>⟨hx,hg.block b hlt fun e=>by
 injection e with e;subst e;rcases hj with hj|hj;omega;exact hx hj⟩
theorem RowX.keept{e:Ba}{xs:List Fa}(h:RowX lo X w l v)(hg:w.grownBy w' (some j))(hB:Blk w j e xs)(he:Ada e 24=false):RowX lo X w' l v:=h.same fun b hlt ⟨cs,fr,hh⟩ hl hx=>⟨hx,hg.block b hlt fun q=>by
 injection q with q;subst q;unfold Blk at hB;rw [hB] at hh;injection hh with hh;injection hh with _ hh;subst hh;simp at he⟩
theorem RowX.new{e:Ba}{xs:List Fa}(h:RowX lo X w l v)(N:New w w' b e xs):RowX lo (b::X) w' l v:=h.same fun b' hlt _ hl hx=>⟨fun hm=>by
 have:=N.at_;rcases Aia.1 hm with q|q;omega;exact hx q,N.g.block hlt⟩
theorem RowX.row(h:RowX lo X w l v):RowT w l v:=by
 obtain ⟨p,c,rfl,h⟩:=h;exact ⟨p,c,rfl,fun h0=>by obtain ⟨b,o,cs,fr,e,_,hh,hR⟩:=h h0;exact ⟨b,o,cs,fr,e,hh,hR⟩⟩
theorem RowT.x(h:RowT w l v):RowX 0 [] w l v:=by
 obtain ⟨p,c,rfl,h⟩:=h;exact ⟨p,c,rfl,fun h0=>by obtain ⟨b,o,cs,fr,e,hh,hR⟩:=h h0;exact ⟨b,o,cs,fr,e,⟨Aka _,List.not_mem_nil⟩,hh,hR⟩⟩
theorem Jm:RowX lo X w [] (.slice none 0 0):=⟨none,0,rfl,fun h=>absurd h Od⟩
theorem Ww{k c:Nat}{xs:List Fa}(h:Blk w k 24 xs)(hx:xs=l.flatMap tyCells)(hl:lo≤k):RowX lo [] w l (.slice (some ⟨k,0,none⟩) l.length c):=⟨_,_,rfl,fun _=>⟨k,0,_,_,rfl,⟨hl,List.not_mem_nil⟩,h,hx▸h.row⟩⟩
theorem RowT.at(h:RowT w l (.slice (some ⟨j,b,none⟩) l.length lo))(i:Nat)(hi:i<l.length):RowAt w j (b+i*2) (tyCells l[i]):=by
 obtain ⟨p,c,hv,h⟩:=h;injection hv with e1 _ _;subst e1;obtain ⟨b',o,cs,fr,e,_,hR⟩:=h O;injection e with e;injection e with e1 e2;subst e1;subst e2;exact Jjb (f:=tyCells) (z:=2) Zwa hR hi
end
def MthT(lo:Nat)(r:List Ty×Ty×Bool)(v:Fa)(w:Aa):Prop:=∃ l,v = .tuple #[l,tyV r.2.1,.bool r.2.2]∧RowX lo [] w r.1 l
theorem CkR.to{F t:Nd}(H:CkR F t){n0 b:Nat}{S:CSt}{w:Aa}{v:Fa}{N m0:Nat}(Z:List Nat)(h:Chk F n0 b S w)(hk:Kd w (fun k=>k<n0) t.kids v)(hb:Bd S N)(hc:N+count t≤1000000)(hZ:∀ j∈Z,j<w.heap.size)(hm:m0≤w.heap.size) :
 Ret PP 172 #[.pointer (some ⟨b,0,none⟩),ndV t v] w fun r w'=>(∃ p c,r = .tuple #[ndV ((ckT F t).rcv S).1 (.slice p ((ckT F t).rcv S).1.kids.length c),.bool ((ckT F t).rcv S).2]∧m0≤w.heap.size∧KdX w.heap.size Z w' ((ckT F t).rcv S).1.kids (.slice p ((ckT F t).rcv S).1.kids.length c))∧G w w' :=
 (H h hk hb hc).mono fun r w' hr=>by
 obtain ⟨⟨u,e,p,c,e2,k⟩,h1⟩:=hr;subst e2;exact ⟨⟨p,c,e,hm,KdN.x k hZ⟩,h1⟩
set_option maxHeartbeats 4000000
set_option maxHeartbeats 4000000
theorem OwnN.new{X:List Nat}{lo b:Nat}{w w':Aa}{ks:List Nd}{s:Fa}{e:Ba}{l:List Fa}(h:OwnN X lo w ks s)(N:New w w' b e l):OwnN (b::X) lo w' ks s:=by
 have:=N.at_
 exact Zhb h (fun k hk hlt=>⟨⟨hk.1.1,fun hm=>by
  rcases Aia.1 hm with q|q;omega;exact hk.1.2 q⟩,hk.2.grow N.g⟩) (fun k _ hlt=>N.g.block hlt) fun xs h=>Xw h N.g
theorem OwnN.sub{X Y:List Nat}{lo:Nat}{w:Aa}{ks:List Nd}{s:Fa}(h:OwnN X lo w ks s)(hs:∀ b∈Y,b∈X):OwnN Y lo w ks s :=
 Zhb h (fun k hk _=>⟨⟨hk.1.1,fun hm=>hk.1.2 (hs k hm)⟩,hk.2⟩) (fun _ _ _=>rfl) fun xs h=>h
theorem CkL.to{F t:Nd}(H:CkL F t){n0 b:Nat}{S:CSt}{w:Aa}{v:Fa}{N m0:Nat}(Z:List Nat)(h:Chk F n0 b S w)(hk:Kd w (fun k=>k<n0) t.kids v)(hb:Bd S N)(hc:N+count t≤1000000)(hZ:∀ j∈Z,j<w.heap.size)(hm:m0≤w.heap.size) :
 Ret PP 162 #[.pointer (some ⟨b,0,none⟩),ndV t v] w fun r w'=>(∃ p c pl cl,r = .tuple #[ndV ((ckT F t).cal S).1.1 (.slice p ((ckT F t).cal S).1.1.kids.length c),.slice pl ((ckT F t).cal S).1.2.1.length cl,tyV ((ckT F t).cal S).1.2.2]∧m0≤w.heap.size∧KdX w.heap.size Z w' ((ckT F t).cal S).1.1.kids (.slice p ((ckT F t).cal S).1.1.kids.length c)∧RowX 0 [] w' ((ckT F t).cal S).1.2.1 (.slice pl ((ckT F t).cal S).1.2.1.length cl))∧Chk F n0 b ((ckT F t).cal S).2 w'∧GT mutR n0 w w' :=
 (H h hk hb hc).mono fun r w' hr=>by
 obtain ⟨⟨u,l,e,⟨p,c,e2,k⟩,hl⟩,h1,h2⟩:=hr;subst e2;obtain ⟨pl,cl,rfl,_⟩:=id hl;exact ⟨⟨p,c,pl,cl,e,hm,KdN.x k hZ,hl.x⟩,h1,h2⟩
theorem Vmd(t:Nd)(x:Nat→Ck)(ps:List Ty)(S:CSt):∀ i,(argA t x ps S i).1.length=i
 | 0=>rfl
 | i+1=>by
  show ((argA t x ps S i).1++[_]).length=_;rw [Aga,Vmd t x ps S i];rfl
def typC(e:Nat):Bool:=Ada e 59 || (Ada e 84 || (Ada e 82 || (Ada e 3 || Ada e 24)))
def mutC(X:List Nat)(e k:Nat):Bool:=typC e && !decide (k∈X)
@[reducible] def gtC(X:List Nat)(n0:Nat):RelX:=⟨fun w w'=>GT (mutC X) n0 w w',GT.refl (mutC X) n0,fun h k=>GT.trans h k⟩
theorem GT.wide{X X':List Nat}{n0:Nat}{w w':Aa}(g:GT (mutC X') n0 w w')(h:∀ j∈X,j∈X'):GT (mutC X) n0 w w' :=
 ⟨g.os,g.tape,g.output,g.size,fun k hk hb=>g.block k hk (hb.imp id fun hn ⟨cs,e,fr,hr,hm⟩=>hn ⟨cs,e,fr,hr,by
 unfold mutC at hm ⊢;simp only [Aaa,Bool.not_eq_true',Wqg] at hm ⊢;exact ⟨hm.1,fun hx=>hm.2 (h k hx)⟩⟩)⟩
theorem gtw{X X':List Nat}{n0:Nat}{a w w':Aa}(g:GT (mutC X) n0 a w)(k:GT (mutC X') n0 w w')(h:∀ j∈X,j∈X':=by intro j hj;simp [hj]):GT (mutC X) n0 a w':=g.trans (k.wide h)
def OkX(X:List Nat):List (Nat×Ba×List Fa)→Prop
 | []=>True
 | (b,e,_)::L=>(typC e=false∨b∈X)∧OkX X L
theorem Obk.gtx{X:List Nat}{n0:Nat}{w w':Aa}{L:List (Nat×Ba×List Fa)}(E:Obk w L)(g:GT (mutC X) n0 w w')(hL:OkX X L:=by repeat' (first|exact trivial|refine ⟨?_,?_⟩|exact .inl rfl|exact .inr Os)):Obk w' L:=by
 have key:∀ (L:List (Nat×Ba×List Fa)),OkX X L→∀ b e l,(b,e,l)∈L→typC e=false∨b∈X:=by
  intro L
  induction L with
  | nil=>intro _ b e l hm;cases hm
  | cons x L ih =>
   obtain ⟨b',e',l'⟩:=x;intro h b e l hm;rcases Aia.1 hm with q|q;injection q with q1 q2;injection q2 with q2 _;subst q1 q2;exact h.1;exact ih h.2 b e l q
 refine ⟨E.1,Yxa E.2 fun b e l hm h=>(g.block b h.lt (.inr fun ⟨cs,f,fr,hr,hM⟩=>?_)).trans h⟩;unfold Blk at h;rw [h] at hr;injection hr with hr;injection hr with _ hr;subst hr;unfold mutC at hM;simp only [Aaa,Bool.not_eq_true',Wqg] at hM;rcases key L hL b e l hm with q|q;rw [q] at hM;exact Baa hM.1;exact hM.2 q
def pcCells(F:Nd)(fv:Fa)(ms mg mn mf:Nat)(sv cv rv:Fa):List Fa:=ndCells F fv++[.map (some ms),.map (some mg),.map (some mn),.map (some mf),sv,cv,rv]
def fnV(k:Nat)(pv:Fa)(y:Ty):Fa:=.agg #[.int .i64 k,pv,.int .i64 y.kind,Str y.name]
def parT(d:Nd):List Ty:=(Zb d 0).kids.map fun p=>(ofF (Zb p 0)).1
def resT(d:Nd):Ty:=(ofF (Zb d 1)).1
def RowM(TB:List Nat)(w:Aa)(l:List Ty)(v:Fa):Prop:=∃ p c,v = .slice p l.length c∧(0<l.length→∃ b o cs fr,p=some ⟨b,o,none⟩∧b∈TB∧w.heap[b]? = some (.cells cs 24 fr)∧RowAt w b o (l.flatMap tyCells))
theorem RowM.same{TB:List Nat}{w w':Aa}{l:List Ty}{v:Fa}(h:RowM TB w l v)(hs:∀ b∈TB,b<w.heap.size→(∃ cs fr,w.heap[b]? = some (.cells cs 24 fr))→w'.heap[b]? = w.heap[b]?):RowM TB w' l v:=by
 obtain ⟨p,c,rfl,h⟩:=h;refine ⟨p,c,rfl,fun h0=>?_⟩;obtain ⟨b,o,cs,fr,rfl,hb,hh,hR⟩:=h h0;have e:=hs b hb (Array.getElem?_eq_some_iff.1 hh).1 ⟨cs,fr,hh⟩;exact ⟨b,o,cs,fr,rfl,hb,e.trans hh,fun i v hi=>(Ha e).trans (hR i v hi)⟩
structure Tab (F:Nd) (TB:List Nat) (ms mg mn mf:Nat) (pv:Nat→Fa) (w:Aa):Prop where
  hs:MapS w ms (numK 2 (fun _ _=>.bool true) F.kids 0)
  hg:MapS w mg (numK 6 (fun _ d=>tyV (ofF (Zb d 0)).1) F.kids 0)
  hn:MapS w mn (numK 6 (fun k _=>.int .i64 k) F.kids 0)
  hf:MapS w mf (numK 4 (fun k d=>fnV k (pv k) (resT d)) F.kids 0)
  hp:∀ s,0≤(findD F 4 s).2→RowM TB w (parT (findD F 4 s).1) (pv (findD F 4 s).2.toNat)
def Zxf(w:Aa):Prop:=RowAt w 2 0 (tyCells tInt)∧RowAt w 3 0 (tyCells tBool)∧RowAt w 4 0 (tyCells tNil)∧RowAt w 6 0 (tyCells ⟨5,[]⟩)∧RowAt w 1 0 (tyCells ⟨6,[]⟩)∧RowAt w 5 0 (tyCells tFunc)
structure LaidW (n0:Nat) (w:Aa):Prop where
  hL:Laid w
  hT:LaidT w
  hC:Zxf w
  hG:10≤n0
  hn:n0≤w.heap.size
theorem LaidW.hb{n0:Nat}{w:Aa}(h:LaidW n0 w):10≤w.heap.size:=Aea h.hG h.hn
theorem Qw{w w':Aa}{b o:Nat}{l:List Fa}(h:RowAt w b o l)(e:w'.heap[b]? = w.heap[b]?):RowAt w' b o l:=fun i v hi=>(Ha e).trans (h i v hi)
theorem LaidW.below{n0:Nat}{w w':Aa}(h:LaidW n0 w)(g:Below n0 w w'):LaidW n0 w':=by
 have hg:=h.hG;have s:∀ k,k<10→w'.heap[k]? = w.heap[k]?:=fun k hk=>g.block k O;obtain ⟨c1,c2,c3,c4,c5,c6⟩:=h.hC;exact ⟨h.hL.below h.hG g,Qw h.hT (s _ Od),⟨Qw c1 (s _ Od),Qw c2 (s _ Od),Qw c3 (s _ Od),Qw c4 (s _ Od),Qw c5 (s _ Od),Qw c6 (s _ Od)⟩,h.hG,Aea h.hn g.size⟩
def rsT:Option (List Ty)→Ty→List Ty
 | none,_=>[]
 | some l,y=>l++[y]
structure PK (F:Nd) (n0 b:Nat) (TB X:List Nat) (r0:Option (List Ty)) (S:CSt) (fv:Fa) (ms mg mn mf:Nat) (pv:Nat→Fa) (sv cv rv:Fa) (vs:List Fa) (sc:List (List Vr)) (w:Aa):Prop where
  B:Blk w b 59 (pcCells F fv ms mg mn mf sv cv rv)
  hb:n0≤b
  kF:Kd w (fun k=>k<n0) F.kids fv
  hF:count F≤1000000
  T:Tab F TB ms mg mn mf pv w
  L:LaidW n0 w
  so:w.ownsRow n0 82 1 sv vs.length vs
  sr:ScR 84 n0 w vs sc
  fl:sc.flatten=S.vars
  sl:sc.length=S.scope+1
  ss:∀ (i:Nat) (l:List Vr),sc[i]? = some l→∀ v∈l,v.scope=i
  co:w.ownsRow n0 3 1 cv (S.level+1) ((S.next.take (S.level+1)).map fun (k:Nat)=>Value.int .i64 (k:Int))
  ro:w.ownsRow n0 24 2 rv (rsT r0 S.result).length ((rsT r0 S.result).flatMap tyCells)
  rl:∀ l,r0=some l→l.length=S.level
  tx:∀ j∈TB,j∈X
  xl:∀ j∈X,j<w.heap.size
  bx:b∉X
  sx:∀ k,sv.ownBlock=some k→k∉X
  vx:∀ (i:Nat) (v:Fa),vs[i]? = some v→∀ k,v.ownBlock=some k→k∉X
  cx:∀ k,cv.ownBlock=some k→k∉X
  rx:∀ k,rv.ownBlock=some k→k∉X
  sz:sc.length≤2000000
def PC(F:Nd)(n0 b:Nat)(TB X:List Nat)(r0:Option (List Ty))(S:CSt)(w:Aa):Prop:=∃ fv ms mg mn mf pv sv cv rv vs sc,PK F n0 b TB X r0 S fv ms mg mn mf pv sv cv rv vs sc w
section
variable {F:Nd} {n0 b:Nat} {TB X:List Nat} {r0:Option (List Ty)} {S:CSt} {fv:Fa} {ms mg mn mf:Nat} {pv:Nat→Fa} {sv cv rv:Fa} {vs:List Fa} {sc:List (List Vr)} {w w':Aa}
def Ow(X:List Nat)(w:Aa)(k:Nat):Prop:=(∃ cs e fr,w.heap[k]? = some (.cells cs e fr)∧typC e=true)∧k∉X
theorem Vuc{e:Ba}{z m:Nat}{v:Fa}{xs:List Fa}(h:w.ownsRow n0 e z v m xs)(he:typC e=true)(hx:∀ k,v.ownBlock=some k→k∉X):∀ k,v.ownBlock=some k→k<w.heap.size∧Ow X w k:=fun k hk=>by
 refine ⟨(h.lt k hk).2,?_,hx k hk⟩;rcases h.2 with ⟨h1,_⟩|⟨g,cap,cur,h1,h2,h3,_⟩;rw [h1] at hk;cases hk;rw [h1] at hk;have:g=k:=by injection hk
 subst this;exact ⟨_,_,_,h3,he⟩
theorem PK.fr(h:PK F n0 b TB X r0 S fv ms mg mn mf pv sv cv rv vs sc w)(hz:w.heap.size≤w'.heap.size)(hB:Below n0 w w')
 (h1:∀ (k:Nat),k<w.heap.size→Ow X w k→w'.heap[k]? = w.heap[k]?) (h2:∀ k∈TB,k<w.heap.size→(∃ cs fr,w.heap[k]? = some (.cells cs 24 fr))→w'.heap[k]? = w.heap[k]?)
 (h3:∀ (k:Nat) (ms:Array MapEntry) (c:Nat),w.heap[k]? = some (Obj.map ms c)→w'.heap[k]? = w.heap[k]?):PK F n0 b TB X r0 S fv ms mg mn mf pv sv cv rv vs sc w':=by
 have m:∀ {k es},MapS w k es→MapS w' k es:=fun hm=>hm.same (by obtain ⟨ms,c,hb,_⟩:=hm;exact h3 _ _ _ hb)
 refine ⟨(h1 b h.B.lt ⟨⟨_,_,_,h.B,rfl⟩,h.bx⟩).trans h.B,h.hb,Wp h.kF (fun _ h _=>h) (fun k hk _=>hB.block k hk),h.hF,⟨m h.T.hs,m h.T.hg,m h.T.hn,m h.T.hf,fun s hs=>(h.T.hp s hs).same h2⟩,h.L.below hB,
  Zib h.so fun k hk=>?_,h.sr.same fun i v hv k hk=>?_,h.fl,h.sl,h.ss,Zib h.co fun k hk=>?_,Zib h.ro fun k hk=>?_,h.rl,h.tx,fun j hj=>Ata (h.xl j hj) hz,h.bx,h.sx,h.vx,h.cx,h.rx,h.sz⟩
 obtain ⟨q1,q2⟩:=Vuc h.so rfl h.sx k hk;exact h1 k q1 q2;obtain ⟨l,_,hr⟩:=h.sr.ex hv;obtain ⟨q1,q2⟩:=Vuc hr rfl (h.vx i v hv) k hk;exact h1 k q1 q2;obtain ⟨q1,q2⟩:=Vuc h.co rfl h.cx k hk;exact h1 k q1 q2;obtain ⟨q1,q2⟩:=Vuc h.ro rfl h.rx k hk;exact h1 k q1 q2
theorem PK.grow(h:PK F n0 b TB X r0 S fv ms mg mn mf pv sv cv rv vs sc w)(g:G w w'):PK F n0 b TB X r0 S fv ms mg mn mf pv sv cv rv vs sc w' :=
 h.fr g.size ⟨g.os,g.tape,g.output,g.size,fun k hk=>g.block (Ata hk h.L.hn)⟩ (fun k hk _=>g.block hk) (fun k _ hk _=>g.block hk) fun k ms c e=>g.block (Array.getElem?_eq_some_iff.1 e).1
theorem PK.keepr(h:PK F n0 b TB X r0 S fv ms mg mn mf pv sv cv rv vs sc w){row:Option Nat}(hg:w.grownBy w' row)(hr:∀ k,row=some k→n0≤k∧(∃ cs e fr,w.heap[k]? = some (.cells cs e fr)∧(typC e=false∨(k∈X∧k∉TB)))):PK F n0 b TB X r0 S fv ms mg mn mf pv sv cv rv vs sc w':=by
 refine h.fr hg.size ⟨hg.os,hg.tape,hg.output,hg.size,fun k hk=>hg.block k (Ata hk h.L.hn) fun e=>by have:=(hr k e.symm).1;omega⟩ (fun k hk ho=>hg.block k hk fun e=>?_) (fun k hT hk ⟨cs,fr,hc⟩=>hg.block k hk fun e=>?_) fun k ms c hm=>hg.block k (Array.getElem?_eq_some_iff.1 hm).1 fun e=>?_;obtain ⟨_,cs,f,fr,h1,h2⟩:=hr k e.symm;obtain ⟨⟨cs',f',fr',h3,h4⟩,h5⟩:=ho;rcases h2 with h2|h2;rw [h1] at h3;injection h3 with h3;injection h3 with _ h3;subst h3;rw [h2] at h4;cases h4;exact h5 h2.1;obtain ⟨_,cs',f,fr',h1,h2⟩:=hr k e.symm;rcases h2 with h2|h2;rw [hc] at h1;injection h1 with h1;injection h1 with _ h1;subst h1;exact Baa (show true=false from h2);exact h2.2 hT;obtain ⟨_,cs',f,fr',h1,_⟩:=hr k e.symm;rw [hm] at h1;injection h1 with h1;cases h1
theorem PK.keep(h:PK F n0 b TB X r0 S fv ms mg mn mf pv sv cv rv vs sc w){j:Nat}{e:Ba}{l:List Fa}(hg:w.grownBy w' (some j))(hB:Blk w j e l)(hj:n0≤j)(he:typC e=false∨(j∈X∧j∉TB)):PK F n0 b TB X r0 S fv ms mg mn mf pv sv cv rv vs sc w' :=
 h.keepr hg fun k hk=>by injection hk with hk;subst hk;exact ⟨hj,_,_,_,hB,he⟩
theorem PK.addX(h:PK F n0 b TB X r0 S fv ms mg mn mf pv sv cv rv vs sc w){j:Nat}{e:Ba}{l:List Fa}(N:New w w' j e l):PK F n0 b TB (j::X) r0 S fv ms mg mn mf pv sv cv rv vs sc w':=by
 have k:=h.grow N.g
 have hj:∀ {i:Nat},i<w.heap.size→i∉X→i∉j::X:=fun hi hx hm=>by
  rcases Aia.1 hm with q|q;have:=N.at_;omega;exact hx q
 exact ⟨k.B,k.hb,k.kF,k.hF,k.T,k.L,k.so,k.sr,k.fl,k.sl,k.ss,k.co,k.ro,k.rl,fun i hi=>Bja _ (k.tx i hi),fun i hi=>by
  rcases Aia.1 hi with q|q;subst q;exact N.blk.lt;exact k.xl i q,hj h.B.lt h.bx,fun i hi=>hj (h.so.lt i hi).2 (h.sx i hi),fun i v hv q hq=>hj (h.sr.lt hv q hq).2 (h.vx i v hv q hq),fun i hi=>hj (h.co.lt i hi).2 (h.cx i hi),fun i hi=>hj (h.ro.lt i hi).2 (h.rx i hi),h.sz⟩
theorem PK.sub(h:PK F n0 b TB X r0 S fv ms mg mn mf pv sv cv rv vs sc w){Y:List Nat}(hT:∀ j∈TB,j∈Y)(hY:∀ j∈Y,j∈X):PK F n0 b TB Y r0 S fv ms mg mn mf pv sv cv rv vs sc w :=
 ⟨h.B,h.hb,h.kF,h.hF,h.T,h.L,h.so,h.sr,h.fl,h.sl,h.ss,h.co,h.ro,h.rl,hT,fun j hj=>h.xl j (hY j hj),fun hm=>h.bx (hY _ hm),fun k hk hm=>h.sx k hk (hY _ hm),fun i v hv k hk hm=>h.vx i v hv k hk (hY _ hm),fun k hk hm=>h.cx k hk (hY _ hm),fun k hk hm=>h.rx k hk (hY _ hm),h.sz⟩
theorem PK.pc(h:PK F n0 b TB X r0 S fv ms mg mn mf pv sv cv rv vs sc w):PC F n0 b TB X r0 S w:=⟨_,_,_,_,_,_,_,_,_,_,_,h⟩
theorem PC.grow(h:PC F n0 b TB X r0 S w)(g:G w w'):PC F n0 b TB X r0 S w':=by obtain ⟨_,_,_,_,_,_,_,_,_,_,_,h⟩:=h;exact (h.grow g).pc
theorem PC.keepr(h:PC F n0 b TB X r0 S w){row:Option Nat}(hg:w.grownBy w' row)(hr:∀ k,row=some k→n0≤k∧(∃ cs e fr,w.heap[k]? = some (.cells cs e fr)∧(typC e=false∨(k∈X∧k∉TB)))):PC F n0 b TB X r0 S w':=by obtain ⟨_,_,_,_,_,_,_,_,_,_,_,h⟩:=h;exact (h.keepr hg hr).pc
theorem PC.keep(h:PC F n0 b TB X r0 S w){j:Nat}{e:Ba}{l:List Fa}(hg:w.grownBy w' (some j))(hB:Blk w j e l)(hj:n0≤j)(he:typC e=false∨(j∈X∧j∉TB)):PC F n0 b TB X r0 S w':=by obtain ⟨_,_,_,_,_,_,_,_,_,_,_,h⟩:=h;exact (h.keep hg hB hj he).pc
theorem PC.addX(h:PC F n0 b TB X r0 S w){j:Nat}{e:Ba}{l:List Fa}(N:New w w' j e l):PC F n0 b TB (j::X) r0 S w':=by obtain ⟨_,_,_,_,_,_,_,_,_,_,_,h⟩:=h;exact (h.addX N).pc
theorem PC.sub(h:PC F n0 b TB X r0 S w){Y:List Nat}(hT:∀ j∈TB,j∈Y)(hY:∀ j∈Y,j∈X):PC F n0 b TB Y r0 S w:=by obtain ⟨_,_,_,_,_,_,_,_,_,_,_,h⟩:=h;exact (h.sub hT hY).pc
theorem PC.lt(h:PC F n0 b TB X r0 S w):n0≤b∧b<w.heap.size:=by obtain ⟨_,_,_,_,_,_,_,_,_,_,_,h⟩:=h;exact ⟨h.hb,h.B.lt⟩
theorem PC.tb(h:PC F n0 b TB X r0 S w):(∀ j∈TB,j∈X)∧∀ j∈X,j<w.heap.size:=by obtain ⟨_,_,_,_,_,_,_,_,_,_,_,h⟩:=h;exact ⟨h.tx,h.xl⟩
theorem PC.laid(h:PC F n0 b TB X r0 S w):LaidW n0 w:=by obtain ⟨_,_,_,_,_,_,_,_,_,_,_,h⟩:=h;exact h.L
theorem PC.nx(h:PC F n0 b TB X r0 S w):b∉X:=by obtain ⟨_,_,_,_,_,_,_,_,_,_,_,h⟩:=h;exact h.bx
theorem PC.scs(h:PC F n0 b TB X r0 S w):Sc S:=by
 obtain ⟨_,_,_,_,_,_,_,_,_,_,scl,h⟩:=h;intro v hv;rw [← h.fl] at hv;obtain ⟨l,hl,hv⟩:=List.mem_flatten.1 hv;obtain ⟨i,hi,rfl⟩:=Bka hl;have:=h.ss i _ (Afa hi) v hv;have:=h.sl;omega
end
end Go.Rk
namespace Go.Rk
open Go.Proofs
open Go Go.RowKit Go.ChangeShapes
theorem Vnd{H:Type}{enc:Ba×Fa→H}{P:Ea}{w:Aa}{base:Nat}{sp:Nat→Bool}{held:Bool}{fuel:Nat}{t:Ba}{f0 f1:Field}{cs:List Fa}{k:Int}{s:List UInt8}{p:List MemPlace}
 (ht:P.underlying t=some (.struct #[f0,f1])) (h0:P.underlying f0.type=some (.int .i64)) (h1:P.underlying f1.type=some .string) (o0:f0.offset=0) (o1:f1.offset=1) (c0:P.cellsOf f0.type=1) (c1:P.cellsOf f1.type=1) (ct:P.cellsOf t=2)
 (h:DataW.trod enc P w base sp held fuel t cs=some (.agg [.lit (.int .i64 k),.lit (.string s)],p)):cs=[.int .i64 k,Str s]:=by
 obtain ⟨y0,y1,n,hx,hl,ha,hb⟩:=trod_struct2 ht h;rw [ct] at hl;rw [o0,c0,Bba] at ha;rw [o1,c1] at hb;obtain ⟨m,e0,ey0,_⟩:=DataW.trod_int h0 ha;obtain ⟨b,e1,ey1,_⟩:=DataW.trod_string h1 hb;subst ey0 ey1
 match cs,hl with
 | [u,v],_ =>
  have q0:[u]=[Value.int .i64 m]:=e0;have q1:[v]=[Value.string b]:=e1;injection q0 with q0 _;injection q1 with q1 _;rw [q0,q1];clear e0 e1 ha hb h;injection hx with hx _;injection hx with hx;injection hx with h2 h3;injection h3 with h3 _;injection h2 with h2;injection h2 with _ h2;injection h3 with h3;injection h3 with h3;rw [h2,h3]
def Juf(P:Ea)(t:Ba):Bool:=match P.underlying t with
 | some (.struct fs)=>(match fs.toList with
  | [f0,f1]=>(match P.underlying f0.type with|some (.int .i64)=>true|_=>false)&&((match P.underlying f1.type with|some .string=>true|_=>false)&&(Ada f0.offset 0&&(Ada f1.offset 1&&(Ada (P.cellsOf f0.type) 1&&(Ada (P.cellsOf f1.type) 1&&Ada (P.cellsOf t) 2)))))
  | _=>false)
 | _=>false
theorem Yda{H:Type}{enc:Ba×Fa→H}{P:Ea}{w:Aa}{base:Nat}{sp:Nat→Bool}{held:Bool}{fuel:Nat}{t:Ba}{cs:List Fa}{k:Int}{s:List UInt8}{p:List MemPlace}
 (ht:Juf P t=true) (h:DataW.trod enc P w base sp held fuel t cs=some (.agg [.lit (.int .i64 k),.lit (.string s)],p)):cs=[.int .i64 k,Str s]:=by
 unfold Juf at ht;split at ht;rename_i fs hu;split at ht;rename_i f0 f1 hf;simp only [Aaa] at ht;obtain ⟨a0,a1,a2,a3,a4,a5,a6⟩:=ht;have hfs:fs = #[f0,f1]:=by rw [← Array.toArray_toList (xs:=fs),hf]
 subst hfs;refine Vnd hu ?_ ?_ (Asa a2) (Asa a3) (Asa a4) (Asa a5) (Asa a6) h;split at a0;assumption;cases a0;split at a1;assumption;cases a1;cases ht;cases ht
end Go.Rk
namespace Go.Rk
open Go.Proofs
open Go Go.RowKit Go.ChangeShapes Go.WideShapes
end Go.Rk
namespace Go.Rk
open Go.Proofs
open Go Go.RowKit Go.ChangeShapes Go.WideShapes Go.ChangeAt
theorem Ujb{H:Type}{enc:Ba×Fa→H}{P:Ea}{w:Aa}{base:Nat}{sp:Nat→Bool}{held:Bool}{fuel:Nat}{t e:Ba}{n:Nat}{cs:List Fa}{ls:List (List UInt8)}{p:List MemPlace}
 (ht:P.underlying t=some (.array n e)) (he:P.underlying e=some .string) (hce:P.cellsOf e=1) (hct:P.cellsOf t=n)
 (h:DataW.trod enc P w base sp held fuel t cs=some (.agg (ls.map fun l=>.lit (.string l)),p)):cs=ls.map Str:=by
 cases fuel with
 | zero=>simp [DataW.trod] at h
 | succ fuel =>
  simp only [DataW.trod,ht,hce,hct,Bda] at h;split at h;rename_i hl;obtain ⟨xs,hm,hx⟩:=Bla.1 h
  have hxs:xs.map (·.1)=ls.map fun l=>(DataW.lit (.string l):DataW H):=by
   have:=congrArg Prod.fst hx;simpa using this
  have hxl:xs.length=n:=by simpa using Lib.mapM_length hm
  have hzl:ls.length=n:=by
   have:=congrArg List.length hxs;simp at this;omega
  apply List.ext_getElem?;intro i;by_cases hi:i<n;obtain ⟨b,hb,hf⟩:=Lib.mapM_at hm i i (by simp [hi]);obtain ⟨s,hc,rfl,_⟩:=DataW.trod_string he hf
  have h1:cs[i]? = some (.string s):=by
   have:=congrArg (·[0]?) hc;simpa [Aqa,List.getElem?_drop] using this
  have h2:(xs.map (·.1))[i]? = some (DataW.lit (.string s.data.toList):DataW H):=by simp [hb]
  rw [hxs] at h2;simp only [List.getElem?_map,Bla,DataW.lit.injEq,Lit.string.injEq] at h2;obtain ⟨z',hz',e⟩:=h2;rw [h1];simp [hz',e];rw [Apa O,Apa (by simp;omega)];cases h
theorem Uka{P:Ea}{x:String×DataW Unit}{r:List (String×DataW Unit)}{W:Aa}{g:Nat}{t:Ba}(h:laidMet P (x::r) W)(hg:P.globalNamed x.1=some g)(ht:(P.globals[g]?).map (·.type)=some t) :
 ∃ cs fuel p,W.var? P x.1=some cs∧DataW.trod (fun _=>()) P W 0 (fun _=>true) false fuel t cs.toList=some (x.2,p):=by
 obtain ⟨n,d⟩:=x;obtain ⟨ps,⟨g',t',cs,fuel,p,q,hg',ht',hvar,hd,_,_⟩,_⟩:=h;obtain rfl:=Option.some.inj (hg.symm.trans hg');obtain rfl:=Option.some.inj (ht.symm.trans ht');exact ⟨cs,fuel,p,hvar,hd⟩
abbrev laidL:List (String×DataW Unit):=Go.Proofs.YtmpfjifhkmdbaaaGreatDoor.Rows.checkAgainRow.laid
theorem Jwd{W:Aa}(h:laidMetH PP laidL W):Laid W:=by
 have h0:laidMet PP laidL W:=h;obtain ⟨cs,fuel,p,hv,hd⟩:=Uka h0.tail.tail.tail.tail.tail (g:=7) (t:=149) KR KR;have hc:cs.toList=opsL.map Str:=Ujb (n:=27) (e:=9) KR KR KR KR hd;obtain ⟨cs2,fuel2,p2,hv2,hd2⟩:=Uka h0.tail.tail.tail (g:=9) (t:=146) KR KR;obtain ⟨ms,hms⟩:∃ ms,PP.underlying 146=some (.interface ms):=Go.underlying_of_isIface Wjd;obtain ⟨f',u,v,hc2,_⟩:=iface_of_trod hms hd2;refine ⟨fun j v hj=>?_,?_⟩;have:=World.var?_cell (by kernel_rfl:PP.globalNamed _=some 7) hv j;rw [Aha,this,← hj,← hc];simp;have:=World.var?_cell (by kernel_rfl:PP.globalNamed _=some 9) hv2 0;refine ⟨.iface u v,?_,.inr ⟨_,_,rfl⟩⟩;rw [this,← Aja,hc2];rfl
theorem Uhe{W:Aa}(h:Laid W):10≤W.heap.size:=by
 obtain ⟨ev,h1,_⟩:=h.err;exact Ga W _ h1
theorem Jxd{W:Aa}(h:laidMetH PP laidL W):LaidT W:=by
 have h0:laidMet PP laidL W:=h;obtain ⟨cs,fuel,p,hv,hd⟩:=Uka h0.tail.tail.tail.tail.tail.tail (g:=0) (t:=108) KR KR;have hc:cs.toList=typTexts.map Str:=Ujb (n:=13) (e:=9) KR KR KR KR hd;intro j v hj;have:=World.var?_cell (by kernel_rfl:PP.globalNamed _=some 0) hv j;rw [Aha,this,← hj,← hc];simp
theorem Jyd{W:Aa}(h:laidMetH PP laidL W):Zxf W:=by
 have h0:laidMet PP laidL W:=h;obtain ⟨cs0,fuel0,p0,hv0,hd0⟩:=Uka h0.tail.tail.tail.tail.tail.tail.tail (g:=2) (t:=24) KR KR;have hc0:=Yda KR hd0;obtain ⟨cs1,fuel1,p1,hv1,hd1⟩:=Uka h0.tail.tail.tail.tail.tail.tail.tail.tail (g:=3) (t:=24) KR KR;have hc1:=Yda KR hd1;obtain ⟨cs2,fuel2,p2,hv2,hd2⟩:=Uka h0.tail.tail.tail.tail.tail.tail.tail.tail.tail (g:=4) (t:=24) KR KR;have hc2:=Yda KR hd2;obtain ⟨cs3,fuel3,p3,hv3,hd3⟩:=Uka h0.tail.tail.tail.tail.tail.tail.tail.tail.tail.tail (g:=6) (t:=24) KR KR;have hc3:=Yda KR hd3;obtain ⟨cs4,fuel4,p4,hv4,hd4⟩:=Uka h0.tail.tail.tail.tail.tail.tail.tail.tail.tail.tail.tail (g:=1) (t:=24) KR KR;have hc4:=Yda KR hd4;obtain ⟨cs5,fuel5,p5,hv5,hd5⟩:=Uka h0.tail.tail.tail.tail.tail.tail.tail.tail.tail.tail.tail.tail (g:=5) (t:=24) KR KR;have hc5:=Yda KR hd5
 exact ⟨(fun j v hj=>by
  have:=World.var?_cell (by kernel_rfl:PP.globalNamed _=some 2) hv0 j;rw [Aha,this,← Aja,hc0];exact hj),(fun j v hj=>by
  have:=World.var?_cell (by kernel_rfl:PP.globalNamed _=some 3) hv1 j;rw [Aha,this,← Aja,hc1];exact hj),(fun j v hj=>by
  have:=World.var?_cell (by kernel_rfl:PP.globalNamed _=some 4) hv2 j;rw [Aha,this,← Aja,hc2];exact hj),(fun j v hj=>by
  have:=World.var?_cell (by kernel_rfl:PP.globalNamed _=some 6) hv3 j;rw [Aha,this,← Aja,hc3];exact hj),(fun j v hj=>by
  have:=World.var?_cell (by kernel_rfl:PP.globalNamed _=some 1) hv4 j;rw [Aha,this,← Aja,hc4];exact hj),(fun j v hj=>by
  have:=World.var?_cell (by kernel_rfl:PP.globalNamed _=some 5) hv5 j;rw [Aha,this,← Aja,hc5];exact hj)⟩
end Go.Rk
namespace Go.Proofs.YtmpfjifhkmdbaaaGreatDoor
open Go Go.RowKit Go.ChangeShapes Go.WideShapes Go.ChangeAt Go.Rk
theorem own:ownKnob Tryz.prog.godebug=none:=KR
def cellOf:DataW Unit→Fa
 | .lit (.int k z)=>.int k z
 | .lit (.string s)=>.string ⟨s.toArray⟩
 | _=>.nilIface
def cellsOf:DataW Unit→Array Fa
 | .agg l=>(l.map cellOf).toArray
 | _=>#[]
def Zyf:DataW Unit→Fa
 | .iface _ (.ptr (.agg [d]))=>cellOf d
 | _=>.nilIface
def put(h:Array Obj)(g:Nat)(cs:Array Fa):Array Obj:=h.modify g fun
 | .cells _ t frozen=>.cells cs t frozen
 | o=>o
noncomputable def laidWorld(os:Os):Aa :=
 let N:=(World.settled Tryz.prog os).heap.size
 let w0:=World.holding Tryz.prog os ⟨#[.cells #[Zyf Rows.laid_strconv_ErrSyntax] 167,.cells #[Zyf Rows.laid_strconv_ErrRange] 167],#[],[]⟩
 let h0:=put w0.heap 0 (cellsOf Rows.laid_interleave_types_texts)
 let h1:=put h0 1 (cellsOf Rows.laid_interleave_check_tChan)
 let h2:=put h1 2 (cellsOf Rows.laid_interleave_check_tInt)
 let h3:=put h2 3 (cellsOf Rows.laid_interleave_check_tBool)
 let h4:=put h3 4 (cellsOf Rows.laid_interleave_check_tNil)
 let h5:=put h4 5 (cellsOf Rows.laid_interleave_check_tFunc)
 let h6:=put h5 6 (cellsOf Rows.laid_interleave_check_tSlice)
 let h7:=put h6 7 (cellsOf Rows.laid_interleave_scan_operators)
 let h8:=put h7 8 #[.iface 165 (.pointer (some ⟨N,0,none⟩))]
 let h9:=put h8 9 #[.iface 165 (.pointer (some ⟨N+1,0,none⟩))]
 let h10:=put h9 10 (cellsOf Rows.laid_internal_strconv_uint64pow10)
 let h11:=put h10 11 (cellsOf Rows.laid_math_bits_deBruijn32tab)
 let h12:=put h11 12 (cellsOf Rows.laid_math_bits_deBruijn64tab)
 { w0 with heap:=h12 }
end Go.Proofs.YtmpfjifhkmdbaaaGreatDoor
namespace Go.Rk
open Go.Proofs
open Go Go.RowKit
def rng(z:Int):Prop := -9223372036854775808≤z∧z≤9223372036854775807
def okNd(t:Nd):Prop:=para (fun t l=>rng t.kind∧rng t.num∧rng t.pos∧rng t.ty.kind∧rng t.ref∧rng t.up∧∀ p∈l,p) t
theorem Uwf(t:Nd):okNd t=(rng t.kind∧rng t.num∧rng t.pos∧rng t.ty.kind∧rng t.ref∧rng t.up∧∀ p∈t.kids.map okNd,p):=Zla _ t
def weight(t:Nd):Nat:=para (fun t l=>1+t.text.length+l.sum) t
theorem Jkc(t:Nd):weight t=1+t.text.length+(t.kids.map weight).sum:=Zla _ t
theorem Xsc:∀ t,count t≤weight t:=by
 refine Nd.ind fun t ih=>?_
 have:∀ (l:List Nd),(∀ k∈l,count k≤weight k)→(l.map count).sum≤(l.map weight).sum:=by
  intro l
  induction l with
  | nil=>intro _;simp
  | cons a l ihl=>intro h;have:=h a List.mem_cons_self;have:=ihl fun k hk=>h k (Bja _ hk);simp;omega
 rw [Qi,Jkc];have:=this t.kids ih;omega
end Go.Rk
namespace Go.Rk
open Go.Proofs
open Go Go.RowKit Go.ChangeShapes Go.WideShapes
abbrev bulk{H:Type}:DataW H→Nat:=Go.Proofs.YtmpfjifhkmdbaaaGreatDoor.Rows.uptoBulk
abbrev bulkAll{H:Type}:List (DataW H)→Nat:=Go.Proofs.YtmpfjifhkmdbaaaGreatDoor.Rows.uptoBulkAll
theorem Web{H:Type}:∀ (l:List (DataW H)) (d:DataW H),d∈l→bulk d≤bulkAll l
 | [],d,h=>by cases h
 | x::l,d,h=>by
  simp only [bulk,bulkAll,Go.Proofs.YtmpfjifhkmdbaaaGreatDoor.Rows.uptoBulkAll];rcases Aia.1 h with rfl|h;omega;have:=Web l d h;simp only [bulk,bulkAll] at this;omega
theorem Wfb{H:Type}:∀ (l m:List (DataW H)),bulkAll (l++m)=bulkAll l+bulkAll m
 | [],m=>by simp [bulkAll,Go.Proofs.YtmpfjifhkmdbaaaGreatDoor.Rows.uptoBulkAll]
 | x::l,m=>by
  have:=Wfb l m;simp only [bulkAll,List.cons_append,Go.Proofs.YtmpfjifhkmdbaaaGreatDoor.Rows.uptoBulkAll] at this ⊢;omega
theorem Wzb:PP.underlying 3=some (.int .i64):=KR
theorem Vvc:PP.underlying 9=some .string:=KR
theorem Xae:PP.cellsOf 3=1:=KR
theorem Vwc:PP.cellsOf 9=1:=KR
noncomputable def fieldsOf'(t:Ba):Option (List (Nat×Nat)):=match PP.underlying t with|some (.struct fs)=>some (fs.toList.map fun f=>(f.type,f.offset))|_=>none
theorem Vod{t:Ba}{L:List (Nat×Nat)}(hL:fieldsOf' t=some L):∃ fs,PP.underlying t=some (.struct fs):=by
 unfold fieldsOf' at hL;split at hL;rename_i fs hfs;exact ⟨fs,hfs⟩;cases hL
theorem len2{α:Type}{l:List α}(h:l.length=2):∃ a b,l=[a,b]:=by
 match l,h with
 | [a,b],_=>exact ⟨a,b,rfl⟩
theorem len8{α:Type}{l:List α}(h:l.length=8):∃ a b c d e f g i,l=[a,b,c,d,e,f,g,i]:=by
 match l,h with
 | [a,b,c,d,e,f,g,i],_=>exact ⟨a,b,c,d,e,f,g,i,rfl⟩
theorem len9{α:Type}{l:List α}(h:l.length=9):∃ a b c d e f g i j,l=[a,b,c,d,e,f,g,i,j]:=by
 match l,h with
 | [a,b,c,d,e,f,g,i,j],_=>exact ⟨a,b,c,d,e,f,g,i,j,rfl⟩
section
variable {H:Type} {enc:Ba×Fa→H} {w:Aa} {base:Nat} {sp:Nat→Bool} {held:Bool}
theorem Wgb{t:Ba}{L:List (Nat×Nat)}(hL:fieldsOf' t=some L){fuel:Nat}{cs:List Fa}{x:DataW H×List MemPlace}(h:DataW.trod enc PP w base sp held fuel t cs=some x) :
 ∃ (xs:List (DataW H×List MemPlace)) (n:Nat),x=(.agg (xs.map (·.1)),xs.flatMap (·.2))∧cs.length=PP.cellsOf t∧xs.length=L.length∧
 ∀ (i ty o:Nat),L[i]? = some (ty,o)→DataW.trod enc PP w base sp held n ty ((cs.drop o).take (PP.cellsOf ty))=xs[i]?:=by
 unfold fieldsOf' at hL;split at hL;rename_i fs hfs;injection hL with hL;obtain ⟨xs,n,rfl,rfl,hl,hxl,hx⟩:=DataW.trod_struct hfs h;refine ⟨xs,n,rfl,hl,by rw [← hL,hxl];simp,fun i ty o hi=>?_⟩;rw [← hL,List.getElem?_map] at hi
 cases hq:fs.toList[i]? with
 | none=>rw [hq] at hi;cases hi
 | some f =>
  rw [hq] at hi;simp only [Option.map_some,Option.some.injEq,Prod.mk.injEq] at hi;obtain ⟨rfl,rfl⟩:=hi;exact hx i f (by rw [← Aja];exact hq)
 cases hL
theorem Yhc{z:Int}(h:(Lit.int .i64 z).wf=true):rng z:=by
 simp only [Lit.wf,Aaa,Wpg] at h;exact h
theorem Uie:fieldsOf' 24=some [(3,0),(9,1)]:=KR
theorem Zzf:PP.cellsOf 24=2:=KR
theorem Yaf{fuel:Nat}{cs:List Fa}{x:DataW H×List MemPlace}(h:DataW.trod enc PP w base sp held fuel 24 cs=some x):∃ y:Ty,cs=tyCells y∧rng y.kind∧y.name.length+1≤bulk x.1:=by
 obtain ⟨xs,n,rfl,hl,hxl,hx⟩:=Wgb Uie h;rw [Zzf] at hl;have h0:=hx 0 _ _ rfl;have h1:=hx 1 _ _ rfl;rw [Xae] at h0;rw [Vwc] at h1;obtain ⟨v0,v1,rfl⟩:=len2 hl;obtain ⟨y0,y1,rfl⟩:=len2 hxl;skip;simp only [Bba,Bma,List.take_zero,Bna,Boa,Bpa] at h0 h1;obtain ⟨z0,c0,rfl,w0⟩:=DataW.trod_int Wzb h0;obtain ⟨s1,c1,rfl,_⟩:=DataW.trod_string Vvc h1;injection c0 with c0 _;injection c1 with c1 _;subst c0 c1;refine ⟨⟨z0,s1.data.toList⟩,rfl,Yhc w0,?_⟩;simp [bulk,Go.Proofs.YtmpfjifhkmdbaaaGreatDoor.Rows.uptoBulk,Go.Proofs.YtmpfjifhkmdbaaaGreatDoor.Rows.uptoBulkAll];omega
theorem Yic:fieldsOf' 26=some [(3,0),(9,1),(3,2),(3,3),(22,4),(24,5),(3,7),(3,8)]:=KR
theorem Ybf:PP.cellsOf 26=9:=KR
theorem Uxf:PP.cellsOf 22=1:=KR
theorem Uyf:PP.underlying 22=some (.slice 26):=KR
theorem Jlc{w:Aa}{b:Nat}{D:Nat→Prop}:∀ (l:List Nd) (o:Nat),(∀ i,(h:i<l.length)→∃ v,RowAt w b (o+i*9) (ndCells l[i] v)∧Kd w D l[i].kids v)→∃ xs,RowAt w b o xs∧KRow w D l xs
 | [],o,_=>⟨[],fun j v hj=>by simp at hj,rfl⟩
 | t::l,o,h=>by
  obtain ⟨v0,h0,k0⟩:=h 0 Os
  obtain ⟨xs,ih,kx⟩:=Jlc l (o+9) (fun i hi=>by
   obtain ⟨v,h1,h2⟩:=h (i+1) (by simpa using hi);rw [show o+(i+1)*9=o+9+i*9 by omega] at h1;exact ⟨v,by simpa using h1,by simpa using h2⟩)
  refine ⟨ndCells t v0++xs,fun j v hj=>?_,Uo (by simpa using k0) kx⟩;by_cases hj9:j<9;rw [Ana (by simpa [ndCells] using hj9)] at hj;exact h0 j v (by simpa using hj);rw [Aoa (by simp [ndCells];omega)] at hj;have:=ih (j-9) v (by simpa [ndCells] using hj);rw [show o+9+(j-9)=o+j by omega] at this;exact this
theorem Uzf:∀ (N fuel:Nat) (cs:List Fa) (x:DataW H×List MemPlace),bulk x.1≤N→DataW.trod enc PP w base sp held fuel 26 cs=some x→
    ∃ (t : Nd) (v : Fa), cs = ndCells t v ∧ Kd w (fun _ => True) t.kids v ∧ okNd t ∧ weight t ≤ bulk x.1 := by
  intro N
  induction N with
  | zero =>
    intro fuel cs x hb h
    obtain ⟨xs, n, rfl, _⟩ := Wgb Yic h
    simp [bulk, Go.Proofs.YtmpfjifhkmdbaaaGreatDoor.Rows.uptoBulk] at hb
  | succ N ih =>
    intro fuel cs x hb h
    obtain ⟨xs, n, rfl, hl, hxl, hx⟩ := Wgb Yic h
    rw [Ybf] at hl
    have h0 := hx 0 _ _ rfl
    have h1 := hx 1 _ _ rfl
    have h2 := hx 2 _ _ rfl
    have h3 := hx 3 _ _ rfl
    have h4 := hx 4 _ _ rfl
    have h5 := hx 5 _ _ rfl
    have h6 := hx 6 _ _ rfl
    have h7 := hx 7 _ _ rfl
    rw [Xae] at h0 h2 h3 h6 h7
    rw [Vwc] at h1
    rw [Uxf] at h4
    rw [Zzf] at h5
    obtain ⟨v0, v1, v2, v3, v4, v5, v5', v6, v7, rfl⟩ := len9 hl
    obtain ⟨y0, y1, y2, y3, y4, y5, y6, y7, rfl⟩ := len8 hxl
    · skip
      simp only [Bba, Bma, List.take_zero, Bna, Boa, Bpa] at h0 h1 h2 h3 h4 h5 h6 h7
      obtain ⟨z0, c0, rfl, w0⟩ := DataW.trod_int Wzb h0
      obtain ⟨s1, c1, rfl, _⟩ := DataW.trod_string Vvc h1
      obtain ⟨z2, c2, rfl, w2⟩ := DataW.trod_int Wzb h2
      obtain ⟨z3, c3, rfl, w3⟩ := DataW.trod_int Wzb h3
      obtain ⟨z6, c6, rfl, w6⟩ := DataW.trod_int Wzb h6
      obtain ⟨z7, c7, rfl, w7⟩ := DataW.trod_int Wzb h7
      obtain ⟨y, cy, wy, _⟩ := Yaf h5
      injection c0 with c0 _; injection c1 with c1 _; injection c2 with c2 _; injection c3 with c3 _; injection c6 with c6 _; injection c7 with c7 _
      simp only [tyCells, List.cons.injEq, and_true] at cy
      obtain ⟨cy1, cy2⟩ := cy
      subst c0 c1 c2 c3 c6 c7 cy1 cy2
      have hb4 : bulk y4.1 ≤ N := by
        simp only [bulk, Go.Proofs.YtmpfjifhkmdbaaaGreatDoor.Rows.uptoBulk, Go.Proofs.YtmpfjifhkmdbaaaGreatDoor.Rows.uptoBulkAll, Aya, Aza] at hb ⊢; omega
      have done : ∀ (ks : List Nd), Kd w (fun _ => True) ks v4 → (∀ k ∈ ks, okNd k) → (ks.map weight).sum ≤ bulk y4.1 →
          ∃ (t : Nd) (v : Fa), [Value.int .i64 z0, .string s1, .int .i64 z2, .int .i64 z3, v4, .int .i64 y.kind, Str y.name, .int .i64 z6, .int .i64 z7] = ndCells t v ∧ Kd w (fun _ => True) t.kids v ∧ okNd t ∧ weight t ≤ bulk (DataW.agg (List.map (·.1) [((.lit (.int .i64 z0) : DataW H), ([] : List MemPlace)), (.lit (.string s1.data.toList), []), (.lit (.int .i64 z2), []), (.lit (.int .i64 z3), []), y4, y5, (.lit (.int .i64 z6), []), (.lit (.int .i64 z7), [])])) := by
        intro ks hk hok hc
        refine ⟨.mk z0 s1.data.toList z2 z3 ks y z6 z7, v4, rfl, hk, ?_, ?_⟩
        · rw [Uwf]
          refine ⟨Yhc w0, Yhc w2, Yhc w3, wy, Yhc w6, Yhc w7, fun p hp => ?_⟩
          obtain ⟨k, hk1, rfl⟩ := List.mem_map.1 hp
          exact hok k hk1
        · rw [Jkc]
          simp only [bulk, Go.Proofs.YtmpfjifhkmdbaaaGreatDoor.Rows.uptoBulk, Go.Proofs.YtmpfjifhkmdbaaaGreatDoor.Rows.uptoBulkAll, Aya, Aza] at hc ⊢
          show 1 + s1.data.toList.length + (ks.map weight).sum ≤ _
          omega
      rcases Go.Deep.open_slice Uyf h4 with ⟨e4, rfl⟩ | ⟨a, len, cap, m, n', D, Pl, e4, hba, hlc, hcm, hmm, rfl, hxs⟩
      · injection e4 with e4 _
        subst e4
        exact done [] (Qab w _) (fun k hk => by cases hk) (Aka _)
      · injection e4 with e4 _
        subst e4
        have hlm : len ≤ m := by rw [hmm]; split <;> omega
        rw [Ybf] at hxs
        have hle : bulkAll ((Aua len).map D) + 1 ≤ bulk (DataW.slice ((Aua len).map D) ((Aua (m - len)).map fun j => D (len + j))) := by
          simp only [bulk, bulkAll, Go.Proofs.YtmpfjifhkmdbaaaGreatDoor.Rows.uptoBulk]; omega
        have build : ∀ k, k ≤ len → ∃ l : List Nd, l.length = k ∧ (∀ i, (h : i < l.length) → ∃ v, w.cells? base (a.add (i * 9)) 9 = some (ndCells l[i] v) ∧ Kd w (fun _ => True) l[i].kids v) ∧ (∀ t ∈ l, okNd t) ∧ (l.map weight).sum ≤ bulkAll ((Aua k).map D) := by
          intro k
          induction k with
          | zero => intro _; exact ⟨[], rfl, fun i hi => by simp at hi, fun t ht => (by cases ht), Aka _⟩
          | succ k ihk =>
            intro hk
            obtain ⟨l, hl1, hl2, hl3, hl4⟩ := ihk (by omega)
            obtain ⟨cs', q1, q2⟩ := hxs k (by omega)
            have hbk : bulk (D k) ≤ N := by
              have := Web ((Aua len).map D) (D k) (List.mem_map_of_mem (List.mem_range.2 (by omega)))
              simp only [] at hb4; omega
            obtain ⟨t, v, rfl, kt, ot, ct⟩ := ih n' cs' _ hbk q2
            refine ⟨l ++ [t], by simp [hl1], fun i hi => ?_, fun u hu => ?_, ?_⟩
            · by_cases hik : i < l.length
              · obtain ⟨v', e1, e2⟩ := hl2 i hik
                rw [List.getElem_append_left hik]; exact ⟨v', e1, e2⟩
              · have hi' : i = l.length := by simp at hi; omega
                subst hi'
                rw [List.getElem_append_right (Aba _)]
                simp only [Ava, List.getElem_cons_zero]
                exact ⟨v, by rw [hl1]; exact q1, kt⟩
            · rcases Bea.1 hu with hu | hu
              · exact hl3 u hu
              · rw [Bca.1 hu]; exact ot
            · rw [List.range_succ, Bfa, Bfa, List.sum_append, Wfb]
              have : bulkAll (List.map D [k]) = bulk (D k) := by simp [bulkAll, bulk, Go.Proofs.YtmpfjifhkmdbaaaGreatDoor.Rows.uptoBulkAll]
              rw [this]; simp only [Aya, Aza, List.sum_cons, List.sum_nil]; simp only [] at ct; omega
        obtain ⟨l, hl1, hl2, hl3, hl4⟩ := build len (Aba _)
        refine done l ⟨some a, cap, by rw [hl1], by rw [hl1]; exact hlc, fun hpos => ?_⟩ hl3 (by simp only [] at hl4 hle ⊢; omega)
        obtain ⟨v0, h0, _⟩ := hl2 0 hpos
        obtain ⟨_, _, hc0⟩ := World.cells?_some h0
        have hc := hc0 0 (by omega)
        have hsp : a.spot = none := by
          cases hq : a.spot with
          | none => rfl
          | some y =>
            have : w.cell? ((a.add (0 * 9)).add 0) = none := by
              unfold World.cell?
              split
              · simp [Addr.add, hq]
              · rfl
            rw [this] at hc; simp [ndCells] at hc
        have ha : a = ⟨a.block, a.off, none⟩ := by cases a; simp only at hsp; rw [hsp]
        obtain ⟨xs', r1, r2⟩ := Jlc (w := w) (b := a.block) (D := fun _ => True) l a.off (fun i hi => by
          obtain ⟨v, e1, e2⟩ := hl2 i hi
          refine ⟨v, ?_, e2⟩
          obtain ⟨_, _, hci⟩ := World.cells?_some e1
          intro j u hj
          have hj9 : j < 9 := by have := (List.getElem?_eq_some_iff.mp hj).1; simpa [ndCells] using this
          have := hci j hj9
          rw [hj] at this
          rw [← this]
          congr 1
          rw [ha, Addr.add_lit, Addr.add_lit])
        exact ⟨a.block, a.off, by rw [ha], trivial, xs', r1, r2⟩
theorem Jzd{r:Reach}{b0:Nat}{v:Fa}{d:DataW H}{p:List MemPlace}(hv:Value.okWide PP w r b0 26 v)(h:DataW.Trod enc PP w base sp held 26 v d p):∃ (t:Nd) (u:Fa),v=ndV t u∧Kd w (fun _=>True) t.kids u∧okNd t∧weight t≤bulk d:=by
 obtain ⟨fs,hfs⟩:=Vod Yic;obtain ⟨cs,rfl,_⟩:=okWide_struct hfs hv;obtain ⟨fuel,hf⟩:=h;obtain ⟨t,u,ht,h1,h2,h3⟩:=Uzf _ fuel _ _ (Aba _) hf;refine ⟨t,u,?_,h1,h2,h3⟩;show Value.agg cs=Value.agg (ndCells t u).toArray;rw [← ht];simp [Value.cells]
theorem Uje{r:Reach}{b0:Nat}{v:Fa}{d:DataW H}{p:List MemPlace}(hv:Value.okWide PP w r b0 26 v)(h:DataW.Trod enc PP w base sp held 26 v d p):∃ (t:Nd) (u:Fa),v=ndV t u∧Kd w (fun _=>True) t.kids u∧okNd t∧count t≤bulk d:=by
 obtain ⟨t,u,h1,h2,h3,h4⟩:=Jzd hv h;exact ⟨t,u,h1,h2,h3,Aea (Xsc t) h4⟩
end
end Go.Rk
namespace Go.Rk
open Go.Proofs
open Go Go.RowKit
def failE(a e:Int):Da:=⟨.iface 48 (.agg #[.int .i64 a,.int .i64 e]),false,false⟩
theorem Ycf(a e:Int)(w:Aa):RetP PP 59 #[.int .i64 a,.int .i64 e] w (fun _ _=>False) (fun ch w'=>ch=[failE a e]∧G w w'):=by
 have g:=G.refl w;refine Vi (m:=8) Tryz.func59 J J [(0,True,_),(1,True,_)] (Za J (Za J (Zr _))) ?_;refine Qec (k:=4) [3,3,3,3,2] J J J ?_;refine Zv J (Zv J (Vfb Jsa Jta (pqc J (pqc J pq0)) J J (Zz J (fun _=>Qre Qvb (Zd J)) (Ze (Vgf (Zd J) ?_)))));exact ⟨rfl,g⟩
theorem Vf(q:Bool)(a e:Int)(w:Aa):RetP PP 32 #[.bool q,.int .i64 a,.int .i64 e] w (fun r w'=>r = .tuple #[]∧q=true∧G w w') (fun ch w'=>q=false∧ch=[failE a e]∧G w w'):=by
 have g:=G.refl w;refine Vi (m:=11) Tryz.func32 J J [(0,True,_),(1,True,_),(2,True,_)] (Za J (Za J (Za J (Zr _)))) ?_;refine Zj (Zl (Zv J (Vbe J (Ze (kq (Wz J (fun h1=>?_) (fun h1=>?_)))))));replace h1:q=false:=by cases q;rfl;cases h1
 refine Zl (Zv J (Zv J (?_)));exact Jya rfl (Zu Uzc Xy (aqc rfl (aqc rfl aq0)) rfl) (Ycf a e _) ((fun ch w' hz=>⟨h1,hz.1,g.trans hz.2⟩)) (fun _ _ h=>h.elim);replace h1:q=true:=by cases q;cases h1;rfl
 refine Yw (Yfa J ?_);exact ⟨rfl,h1,g⟩
theorem Jn(t:Nd)(p:Option Addr)(c:Nat)(w:Aa):Ret PP 30 #[ndV t (.slice p t.kids.length c)] w fun r w'=>r=ndV (clnT t) (.slice none 0 0)∧G w w':=by
 have g:=G.refl w;refine Vo (m:=23) Tryz.func30 J J [(0,True,_)] (Za J (Zr _)) ?_;refine Zj (Zl (Zda J (Zd J) J ?_));intro b1 w1 N1;have l1:=N1.ge g;have g:=g.trans N1.g;have E:=(Qp _).new N1;refine Xc J Zs J ?_;intro b2 w2 N2;have l2:=N2.ge g;have g:=g.trans N2.g;replace E:=E.new N2;refine Ze (kq (Zj (Zl (Xg Xi J (Xl Yf J (E.g1.at_ J) (Xg Xe J (Xl Yy J (E.g1.at_ J) (Xg Xz J (Xl Yf J (E.g1.at_ J) (Vfb Zs Zta (pqc J (pqc J (pqc J pq0))) J J (Xc J Zs J ?_)))))))))));intro b3 w3 N3;have l3:=N3.ge g;have g:=g.trans N3.g;replace E:=E.new N3;refine Zfa Yj J J J E.g0 ?_;intro wS1 hgS1 _ BS;replace E:=E.s0 hgS1 BS;have g:=Yu g hgS1 O;refine Ze (kq (Zj (Zj (Zl (Xg Xi J (Xl Yf J (E.g2.at_ J) (Zea J J (Zv J (Zk J J J (fun _=>Zi Xi (Zd J)) (Yg J J J (Zq Yf (Zp J id) (fun _=>E.g2.at_ J)) (Zk J J J (fun _=>Zoa (Zp J id) Xa) (Zz J (fun _=>Xd (Zd J) (Zp J id)) (Ze (kq (Wz J (fun h1=>?_) (fun h1=>?_))))))))))))))));have e:numS t=t.num:=by unfold numS Wvb;rw [show (decide (t.kind=24) || decide (t.kind=25))=true from h1];rfl
 refine Zl (Xg Ur J (Xl Yf J (E.g2.at_ J) (Xg Ur J (Xdb Wta J J J E.g0 ?_))));intro wS2 hgS2 _ BS;replace E:=E.s0 hgS2 BS;have g:=Yu g hgS2 O;refine Ze (kq (Zj (Zl (Wm Zf J J E.g0.row (Zfa Yj J J J E.g1 ?_)))));intro wS3 hgS3 _ BS;replace E:=E.s1 hgS3 BS;have g:=Yu g hgS3 O;refine Ze (kq (Xo (Wea J (Zra J Zf J (E.g1.row) (Ub)) ?_)));refine ⟨?_,g⟩;unfold clnT;rw [e];rfl;have e:numS t=0:=by unfold numS Wvb;rw [show (decide (t.kind=24) || decide (t.kind=25))=false from h1];rfl
 refine Yw (kq (Zj (Zl (Wm Zf J J E.g0.row (Zfa Yj J J J E.g1 ?_)))));intro wS4 hgS4 _ BS;replace E:=E.s1 hgS4 BS;have g:=Yu g hgS4 O;refine Ze (kq (Xo (Wea J (Zra J Zf J (E.g1.row) (Ub)) ?_)));refine ⟨?_,g⟩;unfold clnT;rw [e];rfl
theorem Uke:∀ (t:Nd) (v:Fa) (D:Nat→Prop) (w:Aa),Kd w D t.kids v→count t≤1000000→Ret PP 53 #[ndV t v] w fun r w'=>RetN (plainT t) w.heap.size r w'∧G w w':=by
 refine Nd.ind fun t ih v D w hk hc=>?_;have hlen:=Wn t;obtain ⟨p,c,rfl,hcap,hks⟩:=hk;have g:=G.refl w;refine Vo (m:=24) Tryz.func53 J J [(0,True,_)] (Za J (Zr _)) ?_;refine Zj (Zl (Zda J (Zd J) J ?_));intro b1 w1 N1;have l1:=N1.ge g;have g:=g.trans N1.g;have E:=(Qp _).new N1;refine Xc J Zs J ?_;intro b2 w2 N2;have l2:=N2.ge g;have g:=g.trans N2.g;replace E:=E.new N2;refine Ze (kq (Zj (Zl (Wm Zf J J E.g1.row (Xm J (Zu Jia Xy (aqc J aq0) J) (Jn t _ _ _) ?_)))));rintro v7 w7 ⟨rfl,g7⟩;refine ⟨fun _=>g7,?_⟩;have g:=g.trans g7;replace E:=E.grow g7;refine Xc J Zs J ?_;intro b3 w3 N3;have l3:=N3.ge g;have g:=g.trans N3.g;replace E:=E.new N3;refine Zfa Yj J J J E.g0 ?_;intro wS1 hgS1 _ BS;replace E:=E.s0 hgS1 BS;have g:=Yu g hgS1 O;refine Ze (kq (Zj (Zj (Zl (?_)))));rw [show ndCells (clnT t) (.slice none 0 0)=ndCells (plainT t) (.slice none 0 0) by rw [Vcd];rfl] at E;refine Xg Zh J (Xl Zg J (E.g2.at_ J) (Yha Zc J (Zv J (Ze (kq (Yx (?_)))))));have hnd1:=E.1;refine Uy (fun (i:Nat) u1=>(i≤t.kids.length∧∃ s,Blk u1 b3 26 (ndCells (plainT t) s)∧OwnN [b1,b2,b3] w.heap.size u1 ((t.kids.take i).map plainT) s)∧G w u1) _ [(2,True,_),(3,True,_),(9,True,_),(10,True,_)] (fun (i:Nat)=>[(11,True,.int .i64 i)]) (fun (i:Nat)=>t.kids.length-i) (0) ⟨⟨Aka _,_,E.g0,Ypa _ _ _⟩,g⟩ (Yb (blkE E.g2) (Yb (blkE E.g1) (Wd _))) (Za J (Za J (Za J (Za J (Za J (Zr _)))))) ?_;clear E;rintro i u1 ⟨hI1,gl1⟩ ⟨B1,B2,_⟩;replace B1:Blk _ _ _ _:=B1;replace B2:Blk _ _ _ _:=B2;have g:=gl1;obtain ⟨hi,s,B3,hO⟩:=hI1;obtain ⟨sa,sc,rfl⟩:=hO.slice;have E:=Vma (L:=[(b3,_,_),(b2,_,_),(b1,_,_)]) hnd1 ⟨B3,B2,B1,trivial⟩ rfl
 refine Zj (Zl (Uua J J (Ze (kq (Zj (Wz J (fun h1=>?_) (fun h1=>?_)))))));replace h2:i<t.kids.length:=by simp only [Wpg] at h1;omega
 obtain ⟨b,o,rfl,hD,xs,hR,hX⟩:=hks O;obtain ⟨p',c',hcell,hkid⟩:=Zab hR hX h2;have hck:=Jk h2;have hkl:=Wn t.kids[i];have hu:=g.size;refine Yw (kq (Zj (Yx (Zj (Zl (Xeb Zc J J O (Wm Zf J J (hcell.grow g) (Xc J Zs J ?_))))))));intro b5 w5 N5;have l5:=N5.ge g;have hO:=hO.new N5;have g:=g.trans N5.g;replace E:=E.new N5;refine Zfa Yj J J J E.g0 ?_;intro wS2 hgS2 _ BS;replace E:=E.s0 hgS2 BS;have g:=Yu g hgS2 O;have hO:=hO.keep hgS2 Os;refine Ze (kq (Xs [3,0,0,1,1,2,3,2] [true,true,true,true,true,true,true,true] [0,1,0,4,12,31,63,127] mix KR ?_));have g:=gdr g;replace E:=E.dr;have hO:=hO.grow (G.drew _);obtain ⟨z5,hz5⟩:∃ z,(wS2.drew).heap.size=z:=⟨_,rfl⟩;have hB1lt:=E.g3.lt;have hB2lt:=E.g2.lt;have hB3lt:=E.g1.lt;have hB5lt:=E.g0.lt;have hOlt:=hO.lt;refine Xg Zh J (Xl Zg J (E.g1.at_ J) (Wm Zf J J E.g0.row (Xm J (Zu Xgb Xy (aqc J aq0) J) (ih _ (List.getElem_mem h2) _ _ _ (hkid.grow g) O) ?_)));rintro v18 w18 ⟨⟨p2,c2,rfl,hk2⟩,g18⟩;refine ⟨fun _=>g18,?_⟩;have g:=g.trans g18;have hk2:=KdN.low (lo':=z5) hk2 (Nat.le_of_eq hz5.symm);replace E:=E.grow g18;have hO:=hO.grow (g18);refine Yc _ J Zc Zs (pqc J pq0) J J ?_;intro b19 w19 N19;have l19:=N19.ge g;have hO:=hO.new N19;have g:=g.trans N19.g;replace E:=E.new N19;have hk2:=hk2.grow N19.g;have hO:=hO.sub (Y:=[b1,b2,b3]) Oj;have hOo:=hO
 refine Wca J Zc Zs J (Zd J) hO (Zd J) J E.g0.row (Vd (Kd.mono hk2 fun k hk _=>⟨⟨⟨by have:=hk.1;omega,by have:=hk.1;simp;omega⟩,hk.2⟩,fun he=>by have:=hOlt k he.symm;have:=hk.1;omega⟩)) (by simp;omega) (by have:=g.size;omega) ⟨by have:=g.size;omega,by have q1:=E.g4.lt;have q2:=E.g3.lt;have q3:=E.g2.lt;simp;omega⟩ ?_;intro a20 c20 w20 hO hg20;replace E:=E.sel [false,false,true,true,true];replace E:=E.keepX hg20 hOo.ne Ob;have g:=Jf g hg20 (fun k hk=>hOo.ge k hk);refine Xg Zh J (Xdb Vb J J J E.g0 ?_);intro wS3 hgS3 _ BS;replace E:=E.s0 hgS3 BS;have g:=Yu g hgS3 O;have hO:=hO.keep hgS3 Os;refine Ze (kq (Zl (Jga J J O (Zv J (Wx [(11,_,_),(2,_,_),(3,_,_),(9,_,_),(10,_,_)] (Za J (Za J (Za J (Za J (Za J (Zr _)))))) (Ze (fun a ha=>?_)))))));exact ⟨i+1,ha,⟨⟨h2,_,E.g0,by rw [Zyc h2,Bfa];exact hO.sub Oj⟩,g⟩,(Yb (blkE E.g2) (Yb (blkE E.g1) (Wd _))),O⟩;replace h2:i=t.kids.length:=by simp only [Wqg] at h1;omega
 subst h2;rw [List.take_length] at hO E;refine Xea J (kq (Zj (Zl (Wm Zf J J E.g0.row (Zfa Yj J J J E.g1 ?_)))));intro wS4 hgS4 _ BS;replace E:=E.s1 hgS4 BS;have g:=Yu g hgS4 O;have hO:=hO.keep hgS4 Os;refine Ze (kq (Xo (Wea J (Zra J Zf J (E.g1.row) (Ub)) ?_)));exact ⟨Yzd (by rw [Qcb];exact hO.kd),g⟩
theorem Vab(t:Nd)(p:Option Addr)(c:Nat)(w:Aa)(hL:Laid w)(hb3:10≤w.heap.size)(hTx:LaidT w)(hlen:t.kids.length≤1000000):Ret PP 51 #[ndV t (.slice p t.kids.length c)] w fun r w'=>r=tyV (ofF t).1∧G w w':=by
 have g:=G.refl w;refine Vo (m:=11) Tryz.func51 J J [(0,True,_)] (Za J (Zr _)) ?_;refine Zj (Zl (Zda J (Zd J) J ?_));intro b1 w1 N1;have l1:=N1.ge g;have g:=g.trans N1.g;have E:=(Qp _).new N1;refine Xc J Xk J ?_;intro b2 w2 N2;have l2:=N2.ge g;have g:=g.trans N2.g;replace E:=E.new N2;refine Ze (kq (Zj (Zl (Wm Zf J J E.g1.row (Xm J (Zu Yzc Xy (aqc J aq0) J) (Jve t _ _ _ (hL.grow g) (by have:=g.size;omega) (hTx.grow g) hlen) ?_)))));rintro v7 w7 ⟨rfl,g7⟩;refine ⟨fun _=>g7,?_⟩;have g:=g.trans g7;replace E:=E.grow g7;refine Zv J (Qo J J (Qo J J (Xc J Xk J ?_)));intro b3 w3 N3;have l3:=N3.ge g;have g:=g.trans N3.g;replace E:=E.new N3;refine Zfa Xv J J J E.g0 ?_;intro wS1 hgS1 _ BS;replace E:=E.s0 hgS1 BS;have g:=Yu g hgS1 O;refine Yr J (Ze (kq (Zj (Zl (Wm Zm J J E.g0.row (Zfa Xv J J J E.g1 ?_))))));intro wS2 hgS2 _ BS;replace E:=E.s1 hgS2 BS;have g:=Yu g hgS2 O;refine Ze (kq (Xo (Wea J (Zra J Zm J (E.g1.row) (Ub)) ?_)));exact ⟨rfl,g⟩
/-! what a panic leaves -/
def Alive(b L:Nat)(w:Aa):Prop:=∃ F fv ms mg mn mf a n c cv rv,Blk w b 59 (pcCells F fv ms mg mn mf (.slice a n c) cv rv)∧L≤n∧n≤c∧n≤2000000
def Bad(n0 b:Nat)(X:List Nat)(L:Nat)(T:CSt)(w:Aa)(ch:List Da)(w':Aa):Prop:=ch=[failE T.ea T.ee]∧T.ee≠0∧Alive b L w'∧GT (mutC X) n0 w w'
section
variable {F:Nd} {n0 b:Nat} {TB X:List Nat} {r0:Option (List Ty)} {S:CSt} {w w':Aa}
theorem Alive.grow{L:Nat}(h:Alive b L w)(g:G w w'):Alive b L w':=by
 obtain ⟨F,fv,ms,mg,mn,mf,a,n,c,cv,rv,hB,h1⟩:=h;exact ⟨F,fv,ms,mg,mn,mf,a,n,c,cv,rv,hB.grow g,h1⟩
theorem PC.alive(h:PC F n0 b TB X r0 S w):Alive b (S.scope+1) w:=by
 obtain ⟨fv,ms,mg,mn,mf,pv,sv,cv,rv,vs,sc,h⟩:=h;obtain ⟨a,c,rfl,hc⟩:=Zpa h.so;exact ⟨F,fv,ms,mg,mn,mf,a,_,c,cv,rv,h.B,by rw [h.sr.len,h.sl];exact Aba _,hc,by rw [h.sr.len];exact h.sz⟩
theorem Wda(he:S.ee=0)(a e:Int):failU false a e S = { S with ea:=a,ee:=e }:=by
 show failS a e S=_;unfold failS;rw [Wng he];rfl
theorem Ul{T:CSt}{q:Bool}{a e:Int}{ch:List Da}{w0 w1:Aa}{L:Nat}(h:PC F n0 b TB X r0 S w)(he:S.ee=0)(hn:e≠0)(hE:Er (failU q a e S) T)(hz:q=false∧ch=[failE a e]∧G w w1)(g:GT (mutC X) n0 w0 w)(hL:L≤S.scope+1):Bad n0 b X L T w0 ch w1:=by
 obtain ⟨rfl,rfl,g1⟩:=hz;rw [Wda he] at hE;obtain ⟨h2,h1⟩:=hE hn;refine ⟨by rw [h1,h2],by rw [h2];exact hn,?_,gtg g g1⟩;obtain ⟨F,fv,ms,mg,mn,mf,a,n,c,cv,rv,hB,h3,h4⟩:=h.alive.grow g1;exact ⟨F,fv,ms,mg,mn,mf,a,n,c,cv,rv,hB,Aea hL h3,h4⟩
theorem Bad.pass{T U:CSt}{X':List Nat}{L L':Nat}{ch:List Da}{w0:Aa}(h:Bad n0 b X' L' T w ch w')(hE:Er T U)(hL:L≤L')(g:GT (mutC X) n0 w0 w)(hX:∀ j∈X,j∈X':=by intro j hj;simp [hj]):Bad n0 b X L U w0 ch w':=by
 obtain ⟨h1,h2,⟨F,fv,ms,mg,mn,mf,a,n,c,cv,rv,hB,h3,h4⟩,h5⟩:=h;obtain ⟨e1,e2⟩:=hE h2;exact ⟨by rw [h1,e1,e2],by rw [e1];exact h2,⟨F,fv,ms,mg,mn,mf,a,n,c,cv,rv,hB,Aea hL h3,h4⟩,gtw g h5 hX⟩
end
theorem Vpd(F:Nd)(s:List UInt8):(lookS (numK 2 (fun _ _=>Value.bool true) F.kids 0) s).getD (.bool false) = .bool (!decide ((findD F 2 s).2<0)):=by
 rw [Zgb];unfold findD;rcases Vrc 2 s F.kids 0 with h|h;rw [h];rfl;have h:0≤(findK 2 s F.kids 0).2:=h;rw [Wng h,Wmg (Int.not_lt.2 h)];rfl
theorem Via:PP.underlying 9=some .string:=KR
theorem Vqd:PP.underlying 51=some (.map 9 4):=KR
theorem Ydf:PP.underlying 52=some (.map 9 24):=KR
theorem Jvf:PP.underlying 53=some (.map 9 3):=KR
theorem Xbe:PP.underlying 54=some (.map 9 61):=KR
theorem Yjc{n:Nat}{σ:List Ent}{c:Prop}{wb:Aa}{ty b:Nat}{x y:Operand}{F:Nd}{s:List UInt8}(h:MapS wb b (numK 2 (fun _ _=>Value.bool true) F.kids 0))(hx:Ev n σ c x (.map (some b)))(hy:Ev n σ c y (Str s)) :
 Rd PP n σ c wb (.lookup 51 x y false) ty (.bool (!decide ((findD F 2 s).2<0))):=by
 rw [← Vpd F s];exact Vpc Via Vqd Zpd h hx hy
theorem Qe(F n:Nd)(S:CSt):pointerS F n S=failU (!decide (n.kind=8) || !decide ((findD F 2 n.text).2<0)) n.pos 5 S:=by
 unfold pointerS;cases decide (n.kind=8) <;> rfl
theorem Vrd{F:Nd}{n0 b:Nat}{TB X:List Nat}{r0:Option (List Ty)}{S:CSt}{w:Aa}(t:Nd)(p:Option Addr)(c:Nat)(h:PC F n0 b TB X r0 S w):RetP PP 52 #[.pointer (some ⟨b,0,none⟩),ndV t (.slice p t.kids.length c)] w (fun r w'=>r = .tuple #[]∧(!decide (t.kind=8) || !decide ((findD F 2 t.text).2<0))=true∧G w w') (fun ch w'=>(!decide (t.kind=8) || !decide ((findD F 2 t.text).2<0))=false∧ch=[failE t.pos 5]∧G w w'):=by
 obtain ⟨fv,ms,mg,mn,mf,pv,sv,cv,rv,vs,sc,h⟩:=h;have g:=G.refl w;refine Vi (m:=19) Tryz.func52 J J [(0,True,_),(1,True,_)] (Za J (Za J (Zr _))) ?_;refine Zj (Zl (Zda J (Zd J) J ?_));intro b3 w3 N3;have l3:=N3.ge g;have g:=g.trans N3.g;have E:=(Qp _).new N3;refine Ze (kq (Xh (rowR none) [3,0,3,3,3,3,3,0,3,0,0,3,3,0,1] [0,1,3,7,15,31,63,127,15,271,1023,2047,0,4096,16383] mix KR [0,1,2,3,4,5,6,7,8,9,10,11,12,13,14] J ?_));have g:=gdr g;replace E:=E.dr;refine Zx 0 J J (fun _=>Zi Xi (Zd J)) (Yi 1 J J (fun w1 hx=>Zq Yf (Zd J) (fun _=>(E.g0.keep hx (fun h=>nomatch h)).at_ J)) (Zx 2 J J (fun _=>Yka (Zd J) Xa) (Zx 3 J J (fun _=>Zw (Zd J)) (Yga (L':=[5,6,7,8,9,10,11,12,13,14]) 4 J J J J J (fun _=>Zw (Zd J)) (Yga (L':=[6,7,8,9,10,11,12,13,14]) 5 J J J J J (fun _=>Zna (Zp J id)) (Yga (L':=[7,8,9,10,11,12,13,14]) 6 J J J J J (fun _=>Zi Js (Zp J id)) (Wsa (L':=[8,9,10,11,12,13,14]) 7 J J J J J (fun w1 hx=>Zq Qy (Zp J id) (fun _=>((h.B.grow g).keep hx (fun h=>nomatch h)).at_ J)) (Yga (L':=[9,10,11,12,13,14]) 8 J J J J J (fun _=>Zi Xe (Zd J)) (Wsa (L':=[10,11,12,13,14]) 9 J J J J J (fun w1 hx=>Zq Yy (Zp J id) (fun _=>(E.g0.keep hx (fun h=>nomatch h)).at_ J)) (Wsa (L':=[11,12,13,14]) 10 J J J J J (fun w1 hx=>Yjc ((h.T.hs.grow g).keep hx (fun h=>nomatch h)) (Zp J id) (Zp J id)) (Zx 11 J J (fun _=>Xd (Zd J) (Zp J id)) (Zx 12 J J (fun _=>Zi Xz (Zd J)) (Yi 13 J J (fun w1 hx=>Zq Yf (Zd J) (fun _=>(E.g0.keep hx (fun h=>nomatch h)).at_ J)) (Zt 14 J J ?_))))))))))))));refine Zn (L':=[]) [3,0,3,3,3,3,3,0,3,0,0,3,3,0,1] J J J ?_
 refine Jya J (Zu Ye Xy (aqc J (aqc J (aqc J aq0))) J) (Vf _ _ _ _) ((fun ch w' hz=>⟨hz.1,hz.2.1,g.trans hz.2.2⟩)) ?_;rintro v18 w18 ⟨rfl,hq,g18⟩;refine ⟨fun _=>g18,?_⟩;have g:=g.trans g18;replace E:=E.grow g18;refine Zy ((g18).only _) ?_;refine Wra [] (Zr _) (Jg (Yfa J ?_));exact ⟨rfl,hq,g⟩
theorem Ykc{F:Nd}{n0 b:Nat}{TB X:List Nat}{r0:Option (List Ty)}{S:CSt}{w:Aa}(t:Nd)(p:Option Addr)(c:Nat)(h:PC F n0 b TB X r0 S w)(he:S.ee=0)(hl:t.kids.length≤1000000):RetP PP 55 #[.pointer (some ⟨b,0,none⟩),ndV t (.slice p t.kids.length c)] w (fun r w'=>r=tyV (ofF t).1∧localS F t S=S∧G w w') (Bad n0 b X (S.scope+1) (localS F t S) w):=by
 have g:=G.refl w;refine Vi (m:=17) Tryz.func55 J J [(0,True,_),(1,True,_)] (Za J (Za J (Zr _))) ?_;refine Zj (Zl (Zda J (Zd J) J ?_));intro b3 w3 N3;have l3:=N3.ge g;have g:=g.trans N3.g;have E:=(Qp _).new N3;refine Xc J Xk J ?_;intro b4 w4 N4;have l4:=N4.ge g;have g:=g.trans N4.g;replace E:=E.new N4;refine Ze (kq (Zj (Zl (Zv J (Wm Zf J J E.g1.row (Jya J (Zu Qt Xy (aqc J (aqc J aq0)) J) (Vrd t _ _ (h.grow g)) ((fun ch w' hz=>Ul (h.grow g) he Od (by unfold localS;rw [Qe];exact (Er.refl _).failu _ _ _) hz (GT.of_g g) (Aba _))) ?_))))));rintro v8 w8 ⟨rfl,hq,g8⟩;refine ⟨fun _=>g8,?_⟩;have g:=g.trans g8;replace E:=E.grow g8;refine Ze (kq (Zj (Zl (Wm Zf J J E.g1.row (Xm J (Zu Zmd Xy (aqc J aq0) J) (Vab t _ _ _ ((h.grow g).laid).hL ((h.grow g).laid).hb ((h.grow g).laid).hT hl) ?_)))));rintro v10 w10 ⟨rfl,g10⟩;refine ⟨fun _=>g10,?_⟩;have g:=g.trans g10;replace E:=E.grow g10;refine Xc J Xk J ?_;intro b5 w5 N5;have l5:=N5.ge g;have g:=g.trans N5.g;replace E:=E.new N5;refine Zfa Xv J J J E.g0 ?_;intro wS1 hgS1 _ BS;replace E:=E.s0 hgS1 BS;have g:=Yu g hgS1 O;refine Ze (kq (Zj (Xh (rowR none) [0,1,3,0,1] [0,1,0,4,15] mix KR [0,1,2,3,4] J ?_)));have g:=gdr g;replace E:=E.dr;refine Yi 0 J J (fun w1 hx=>Zo Zm (Zd J) J (fun _=>(E.g0.keep hx (fun h=>nomatch h)).row)) (Zx 2 J J (fun _=>Zi Xz (Zd J)) (Yi 3 J J (fun w1 hx=>Zq Yf (Zd J) (fun _=>(E.g2.keep hx (fun h=>nomatch h)).at_ J)) (Zt 1 J J ?_)));refine Zn (L':=[4]) [0,1,3,0,1] J J J ?_;refine Xm J (Zu Xhb Xy (aqc J aq0) J) (Xza (ofF t).1 _ ((h.grow g).laid).hL ((h.grow g).laid).hb) ?_;rintro v12 w12 ⟨rfl,g12⟩;refine ⟨fun _=>g12,?_⟩;have g:=g.trans g12;replace E:=E.grow g12;refine Zy ((g12).only _) ?_
 refine Zt 4 J J ?_;refine Zn (L':=[]) [0,1,3,0,1] J J J ?_;refine Jya J (Zu Ye Xy (aqc J (aqc J (aqc J aq0))) J) (Vf _ _ _ _) ((fun ch w' hz=>Ul (h.grow g) he Od (by unfold localS;rw [Qe,hq];exact Er.refl _) hz (GT.of_g g) (Aba _))) ?_;rintro v15 w15 ⟨rfl,hq2,g15⟩;refine ⟨fun _=>g15,?_⟩;have g:=g.trans g15;replace E:=E.grow g15;refine Zy ((g15).only _) ?_;refine Wra [(4,_,_),(5,_,_)] (Za J (Za J (Zr _))) (Jg (kq (Zj (Zl (Wm Zm J J E.g0.row (Zfa Xv J J J E.g1 ?_))))));intro wS2 hgS2 _ BS;replace E:=E.s1 hgS2 BS;have g:=Yu g hgS2 O;refine Ze (kq (Xo (Wea J (Zra J Zm J (E.g1.row) (Ub)) ?_)));refine ⟨rfl,?_,g⟩;unfold localS;rw [Qe,hq,hq2];rfl
section
variable {F:Nd} {n0 b:Nat} {TB X:List Nat} {r0:Option (List Ty)} {S:CSt} {fv:Fa} {ms mg mn mf:Nat} {pv:Nat→Fa} {sv cv rv:Fa} {vs:List Fa} {sc:List (List Vr)} {w w' w1 w2:Aa}
theorem Xce{e k:Nat}(he:typC e=true)(hx:k∉X):mutC X e k=true:=by
 unfold mutC;rw [he,Wmg hx];rfl
theorem Job{e:Ba}{z m:Nat}{v:Fa}{xs:List Fa}(hO:w.ownsRow n0 e z v m xs)(he:typC e=true)(hx:∀ k,v.ownBlock=some k→k∉X)(hg:w.grownBy w' v.ownBlock):GT (mutC X) n0 w w' :=
 ⟨hg.os,hg.tape,hg.output,hg.size,fun k hk hb=>hg.block k hk fun e'=>by
 obtain ⟨_,⟨cs,f,fr,h1,h2⟩,h3⟩:=Vuc hO he hx k e'.symm;rcases hb with hb|hb;have:=(hO.lt k e'.symm).1;omega;exact hb ⟨cs,f,fr,h1,Xce h2 h3⟩⟩
theorem Vta{e:Ba}{l:List Fa}(hB:Blk w b e l)(he:typC e=true)(hb:n0≤b)(hx:b∉X)(hg:w.grownBy w' (some b)):GT (mutC X) n0 w w' :=
 ⟨hg.os,hg.tape,hg.output,hg.size,fun k hk hq=>hg.block k hk fun e'=>by
 injection e' with e';subst e';rcases hq with hq|hq;omega;exact hq ⟨_,_,_,hB,Xce he hx⟩⟩
theorem Jpb{e e':Ba}{z m:Nat}{v:Fa}{xs:List Fa}(h:w.ownsRow n0 e z v m xs)(he:Ada e e'=false):∀ k,v.ownBlock=some k→¬ TyR (fun x _=>Ada x e') w k:=fun k hk ⟨cs,f,fr,h1,h2⟩=>by
 rcases h.2 with ⟨q,_⟩|⟨g,cap,cur,q,_,h3,_⟩;rw [q] at hk;cases hk;rw [q] at hk;have:g=k:=by injection hk
 subst this;rw [h1] at h3;injection h3 with h3;injection h3 with _ h3;subst h3;have h2:Ada _ e'=true:=h2;rw [he] at h2;cases h2
theorem PK.tabs(h:PK F n0 b TB X r0 S fv ms mg mn mf pv sv cv rv vs sc w)(g:GT (mutC X) n0 w w'):Kd w' (fun k=>k<n0) F.kids fv∧Tab F TB ms mg mn mf pv w'∧LaidW n0 w'∧∀ j∈X,j<w'.heap.size:=by
 have hB:Below n0 w w':=⟨g.os,g.tape,g.output,g.size,fun k hk=>g.block k (Ata hk h.L.hn) (.inl hk)⟩
 have m:∀ {k es},MapS w k es→MapS w' k es:=fun hm=>hm.same (g.block _ hm.lt (.inr fun ⟨cs,e,fr,h1,_⟩=>by
  obtain ⟨ms,c,hb,_⟩:=hm;rw [hb] at h1;injection h1 with h1;cases h1))
 refine ⟨Wp h.kF (fun _ h _=>h) (fun k hk _=>hB.block k hk),⟨m h.T.hs,m h.T.hg,m h.T.hn,m h.T.hf,fun s hs=>(h.T.hp s hs).same fun k hk hlt _=>g.block k hlt (.inr fun ⟨cs,e,fr,h1,h2⟩=>?_)⟩,h.L.below hB,fun j hj=>Ata (h.xl j hj) g.size⟩;unfold mutC at h2;rw [Wng (h.tx k hk)] at h2;simp at h2
theorem PK.scp(h:PK F n0 b TB X r0 S fv ms mg mn mf pv sv cv rv vs sc w){sv':Fa}{vs':List Fa}{sc':List (List Vr)}{S':CSt}(hg:w.grownBy w1 sv.ownBlock)(ho:w1.ownsRow n0 82 1 sv' vs'.length vs')
 (hat:∀ k,sv'.ownBlock=some k→sv.ownBlock=some k∨w.heap.size≤k) (hg2:w1.grownBy w2 (some b)) (hB2:Blk w2 b 59 (pcCells F fv ms mg mn mf sv' cv rv)) (hsr:ScR 84 n0 w vs' sc')
 (hvx:∀ (i:Nat) (v:Fa),vs'[i]? = some v→∀ k,v.ownBlock=some k→k∉X) (fl:sc'.flatten=S'.vars) (sl:sc'.length=S'.scope+1) (ss:∀ (i:Nat) (l:List Vr),sc'[i]? = some l→∀ v∈l,v.scope=i)
 (hl:S'.level=S.level) (hn:S'.next=S.next) (hr:S'.result=S.result) (hz:sc'.length≤2000000):PK F n0 b TB X r0 S' fv ms mg mn mf pv sv' cv rv vs' sc' w2∧GT (mutC X) n0 w w2:=by
 have B1:Blk w1 b 59 _:=h.B.keep hg (fun e=>Wb h.so h.B rfl e.symm);have g1:=Job h.so rfl h.sx hg;have g2:GT (mutC X) n0 w1 w2:=Vta B1 rfl h.hb h.bx hg2;have G:=g1.trans g2;obtain ⟨t1,t2,t3,t4⟩:=h.tabs G;refine ⟨⟨hB2,h.hb,t1,h.hF,t2,t3,Ym ho hg2 (.inr (Wb ho B1 J)),(hsr.keep hg (Jpb h.so J)).keep hg2 (fun k hk=>by injection hk with hk;subst hk;exact Wdb (M:=fun x _=>Ada x 84) B1 J),fl,sl,ss,?_,?_,by rw [hl];exact h.rl,h.tx,t4,h.bx,fun k hk=>?_,hvx,h.cx,h.rx,hz⟩,G⟩;have k:=Ym h.co hg (Yja h.co h.so rfl);rw [hl,hn];exact Ym k hg2 (.inr (Wb k B1 rfl));have k:=Ym h.ro hg (Yja h.ro h.so rfl);rw [hr];exact Ym k hg2 (.inr (Wb k B1 rfl));rcases hat k hk with q|q;exact h.sx k q;intro hm;have:=h.xl k hm;omega
end
theorem Vxc{F:Nd}{n0 b:Nat}{TB X:List Nat}{r0:Option (List Ty)}{S:CSt}{w:Aa}(h:PC F n0 b TB X r0 S w)(hs:S.scope≤1000000):Ret PP 54 #[.pointer (some ⟨b,0,none⟩)] w fun r w'=>r = .tuple #[]∧PC F n0 b TB X r0 (openS S) w'∧GT (mutC X) n0 w w':=by
 obtain ⟨fv,ms,mg,mn,mf,pv,sv,cv,rv,vs,sc,h⟩:=h;have hln:=h.sr.len;have hsl:=h.sl;have hnn:=h.L.hn;have g:=GT.refl (mutC X) n0 w;refine Vo (m:=11) Tryz.func54 J J [(0,True,_)] (Za J (Zr _)) ?_;refine Zl (Zv J (Zv J (Vy J (Xg Xf J (Xl Yo J (h.B.at_ J) (CM fun _ _ N7 _ g E=>?_))))));have h:=h.grow (N7.g);refine Um J Yt Zua J Od (Zd J) h.so (Zd J) J N7.blk.row J (by simp only [maxLen];omega) O (by have:=g.size;omega) ?_;intro a8 c8 w8 ho8 hg8 hat8;have B8:Blk w8 b 59 _:=h.B.keep hg8 (fun e=>Wb h.so h.B rfl e.symm);replace E:=Qp w8;refine AU ?_;refine Xr J Vk (Zd J) (Zd J) J B8 J J ?_;intro w11 hg11 hz11 B11
 obtain ⟨k11,g11⟩:=h.scp (vs':=vs++[.slice none 0 0]) (sc':=sc++[[]]) (S':=openS S) hg8 (by rw [Aga];exact ho8) (fun k hk=>hat8.imp (fun q=>q.symm.trans hk) fun q=>by rw [hk] at q;injection q with q;omega) hg11 B11 h.sr.push (fun i v hv k hk=>by
  rcases Nat.lt_or_ge i vs.length with q|q;rw [Ana q] at hv;exact h.vx i v hv k hk;rw [Aoa q] at hv;rcases Bqa (i-vs.length) with z|z;rw [z] at hv;injection hv with hv;subst hv;cases hk;rw [Apa (by show 1≤_;omega)] at hv;cases hv) (by rw [Bra];show sc.flatten++[]=_;rw [List.append_nil];exact h.fl) (by rw [Aga];show sc.length+1=S.scope+1+1;omega) (fun i l hi v hv=>by
  rcases Nat.lt_or_ge i sc.length with q|q;rw [Ana q] at hi;exact h.ss i l hi v hv;rw [Aoa q] at hi;rcases Bqa (i-sc.length) with z|z;rw [z] at hi;injection hi with hi;subst hi;cases hv;rw [Apa (by show 1≤_;omega)] at hi;cases hi) rfl rfl rfl (by rw [Aga];show sc.length+1≤_;omega)
 have g:=g.trans g11;refine Ze (Yfa J ?_);exact ⟨rfl,k11.pc,g⟩
theorem Ule{sc:List (List Vr)}{n:Nat}(hl:sc.length=n+1)(hs:∀ (i:Nat) (l:List Vr),sc[i]? = some l→∀ v∈l,v.scope=i):dropV n sc.flatten=(sc.take n).flatten:=by
 have e:sc=sc.take n++[sc[n]'O]:=by
  conv=>lhs;rw [← List.take_append_drop n sc,Bsa O]
  rw [Bga O]
 have e2:sc.flatten=(sc.take n).flatten++sc[n]'O:=by
  conv=>lhs;rw [e]
  rw [Bra];simp
 rw [e2];refine Jfc (fun v hv=>hs n _ (Afa O) v hv) fun v hv=>?_;obtain ⟨l,hl2,hv⟩:=List.mem_flatten.1 hv;obtain ⟨i,hi,rfl⟩:=Bka hl2;rw [Ara] at hi;have:=hs i _ (Afa O) v (by rw [List.getElem_take] at hv;exact hv);omega
theorem Vbb{F:Nd}{n0 b:Nat}{TB X:List Nat}{r0:Option (List Ty)}{S:CSt}{w:Aa}(h:PC F n0 b TB X r0 S w)(hs1:1≤S.scope)(hs:S.scope≤1000000):RetB PP 142 #[.pointer (some ⟨b,0,none⟩)] w fun r w'=>r = .tuple #[]∧PC F n0 b TB X r0 (shutS S) w'∧GT (mutC X) n0 w w':=by
  obtain ⟨fv, ms, mg, mn, mf, pv, sv, cv, rv, vs, sc, h⟩ := h
  have hln := h.sr.len
  have hsl := h.sl
  have hnn := h.L.hn
  obtain ⟨pa, pc, rfl, hc⟩ := Zpa h.so
  have g := GT.refl (mutC X) n0 w
  refine Wuc (m := 16) Tryz.func142 J J [(0, True, _)] (Za J (Zr _)) ?_
  refine Xs [3, 3, 3, 3, 0, 3, 3, 3, 0, 3, 3, 3, 3, 3, 2] [true, true, true, true, true, true, true, true, true, true, true, true, true, true, true] [0, 0, 2, 6, 14, 0, 32, 96, 224, 480, 992, 2046, 4095, 8191, 16383] mix (by kernel_rfl) ?_
  have g := gtd g
  have h := h.grow (G.drew _)
  refine Zv J (Zv J (Vy J (Xg Xf J (Xl Yo J (h.B.at_ J) (Zv J (Vy J (Xg Xf J (Xl Yo J (h.B.at_ J) (Yha Yt J (Zz J (fun _ => Xca (Zd J) Xa (fun _ => by omega)) (Zz J (fun _ => Qlb Yt (Zd J) (Zd J) (fun _ => by omega)) (Vy J (Xg Xf J (Xr J Vk (Zd J) (Zd J) J h.B J J ?_))))))))))))))
  intro w16 hg16 hz16 B16
  have e : ((vs.length : Int) - 1).toNat = vs.length - 1 := by omega
  rw [e] at B16
  have el : (vs.take (vs.length - 1)).length = vs.length - 1 := by rw [Ara]; omega
  obtain ⟨k16, g16⟩ := h.scp (sv' := .slice pa (vs.length - 1) pc) (vs' := vs.take (vs.length - 1)) (sc' := sc.take S.scope) (S' := shutS S) (Jsd _ _) (by rw [el]; have := Xad h.so (j := vs.length - 1) (by omega); rwa [Bda] at this) (fun k hk => .inl (by cases pa <;> exact hk)) hg16 B16 (by rw [show vs.length - 1 = S.scope by omega]; exact h.sr.pop S.scope) (fun i v hv k hk => by
    rw [Aqa] at hv
    split at hv
    · exact h.vx i v hv k hk
    · cases hv) (by show _ = dropV S.scope S.vars; rw [← h.fl]; exact (Ule hsl h.ss).symm) (by rw [Ara]; show _ = S.scope - 1 + 1; omega) (fun i l hi v hv => by
    rw [Aqa] at hi
    split at hi
    · exact h.ss i l hi v hv
    · cases hi) rfl rfl rfl (by rw [Ara]; have := h.sz; omega)
  have g := g.trans g16
  refine Ze (Yfa J ?_)
  exact ⟨rfl, k16.pc, g⟩
theorem Yef{F:Nd}{n0 b:Nat}{TB X:List Nat}{r0:Option (List Ty)}{S:CSt}{w:Aa}(h:PC F n0 b TB X r0 S w)(hs1:1≤S.scope)(hs:S.scope≤1000000):Ret PP 142 #[.pointer (some ⟨b,0,none⟩)] w fun r w'=>r = .tuple #[]∧PC F n0 b TB X r0 (shutS S) w'∧GT (mutC X) n0 w w':=(Vbb h hs1 hs).ret
theorem Yff{b L:Nat}{w:Aa}(h:Alive b (L+1) w):RetB PP 142 #[.pointer (some ⟨b,0,none⟩)] w fun r w'=>r = .tuple #[]∧Alive b L w'∧w.grownBy w' (some b):=by
 obtain ⟨F,fv,ms,mg,mn,mf,a,n,c,cv,rv,hB,h1,h2,h3⟩:=h;have g:=G.refl w;refine Wuc (m:=16) Tryz.func142 J J [(0,True,_)] (Za J (Zr _)) ?_;refine Xs [3,3,3,3,0,3,3,3,0,3,3,3,3,3,2] [true,true,true,true,true,true,true,true,true,true,true,true,true,true,true] [0,0,2,6,14,0,32,96,224,480,992,2046,4095,8191,16383] mix KR ?_;have g:=gdr g;have hB:=hB.grow (G.drew _);refine Zv J (Zv J (Vy J (Xg Xf J (Xl Yo J (hB.at_ J) (Zv J (Vy J (Xg Xf J (Xl Yo J (hB.at_ J) (Yha Yt J (Zz J (fun _=>Xca (Zd J) Xa (fun _=>O)) (Zz J (fun _=>Qlb Yt (Zd J) (Zd J) (fun _=>O)) (Vy J (Xg Xf J (Xr J Vk (Zd J) (Zd J) J hB J J ?_))))))))))))));intro w16 hg16 hz16 B16;rw [show ((n:Int)-1).toNat=n-1 by omega] at B16;have hg:=Jfa (g.only (some b)) hg16;refine Ze (Yfa J ?_);exact ⟨rfl,⟨F,fv,ms,mg,mn,mf,a,n-1,c,cv,rv,B16,O,O,O⟩,hg⟩
theorem Xed{n0:Nat}{e:Ba}{w:Aa}{sv:Fa}{vs:List Fa}(h:w.ownsRow n0 e 1 sv vs.length vs):∃ p c,sv = .slice p vs.length c∧vs.length≤c∧∀ (i:Nat) (v:Fa),vs[i]? = some v→p=some ⟨pb p,po p,none⟩∧w.cell? ⟨pb p,po p+i*1,none⟩=some v:=by
 obtain ⟨p,c,hv,hc⟩:=Zpa h;refine ⟨p,c,hv,hc,fun i v hi=>?_⟩;have hlt:=(List.getElem?_eq_some_iff.1 hi).1;obtain ⟨g,c',hv',_,hR,_⟩:=Qva h O;rw [hv] at hv';injection hv' with e1 _ _;subst e1;refine ⟨rfl,?_⟩;have:=hR i v hi;rw [Bda];exact this
theorem Vyc{n0:Nat}{e:Ba}{w:Aa}{sv:Fa}{l:List Vr}(h:w.ownsRow n0 e 5 sv l.length (l.flatMap pvCells)):∃ p c,sv = .slice p l.length c∧l.length≤c∧∀ i,(hi:i<l.length)→p=some ⟨pb p,po p,none⟩∧RowAt w (pb p) (po p+i*5) (pvCells l[i]):=by
 obtain ⟨p,c,hv,hc⟩:=Zpa h;refine ⟨p,c,hv,hc,fun i hi=>?_⟩;obtain ⟨g,c',hv',_,hR,_⟩:=Qva h O;rw [hv] at hv';injection hv' with e1 _ _;subst e1;exact ⟨rfl,Jjb Vtc hR hi⟩
def fndV(o:Option Vr):Fa:=.tuple #[.agg (pvCells (o.getD vr0)).toArray,.bool o.isSome]
theorem Vzc{F:Nd}{n0 b:Nat}{TB X:List Nat}{r0:Option (List Ty)}{S:CSt}{w:Aa}{N:Nat}(h:PC F n0 b TB X r0 S w)(hb:Bd S N)(hN:N≤1000000)(s:List UInt8):Ret PP 157 #[.pointer (some ⟨b,0,none⟩),Str s] w fun r w'=>r=fndV (findV S.vars s)∧G w w':=by
 obtain ⟨fv,ms,mg,mn,mf,pv,sv,cv,rv,vs,sc,h⟩:=h;have hln:=h.sr.len;have hsl:=h.sl;have hsc:=hb.sc;have hfl:=h.fl;have hvl:=hb.vl;obtain ⟨pa,pc,rfl,hc,hat⟩:=Xed h.so;have g:=G.refl w;rw [← hfl];refine Vo (m:=55) Tryz.func157 J J [(0,True,_),(1,True,_)] (Za J (Za J (Zr _))) ?_;refine Zj (Zl (AM fun _ w4 _ _ g E=>?_));refine Yr rfl (Ze (kq (Zj (Zj (Zl (Zv rfl (Vy rfl (Xg Xf rfl (Xl Yo rfl ((h.B.grow g).at_ rfl) (Yha Yt rfl (Zz rfl (fun _=>Xca (Zd rfl) Xa (fun _=>O)) (Yr rfl (Ze (kq (Yx (Vv (fun (i:Nat) u1=>(i≤sc.length∧findV (sc.drop i).flatten s=none)∧G w4 u1) [(0,True,_),(1,True,_),(4,True,_)] (fun (i:Nat)=>[(6,True,.int .i64 ((i:Int)-1))]) (fun (i:Nat)=>i) (vs.length) ⟨⟨O,by rw [Bga O];rfl⟩,G.refl _⟩ (Za rfl (Za rfl (Za rfl (Za rfl (Zr _))))) ?_))))))))))))))));rintro i u1 ⟨hI1,gl1⟩;have g:=g.trans gl1;replace E:=E.grow gl1;obtain ⟨hi,hf⟩:=hI1;refine Zj (Zj (Zl (Zv J (Zqg J J (Ze (kq (Wz J (fun h1=>?_) (fun h1=>?_))))))));have hi1:1≤i:=by have:=Wrg h1;omega
 obtain ⟨l,hl⟩:∃ l,sc[i-1]? = some l:=⟨_,Afa O⟩;obtain ⟨hi2,hle⟩:=List.getElem?_eq_some_iff.1 hl;obtain ⟨v,hv⟩:∃ v,vs[i-1]? = some v:=⟨_,Afa O⟩;obtain ⟨hpa,hcell⟩:=hat _ _ hv;obtain ⟨pi,ci,rfl,hci,hrow⟩:=Vyc (h.sr.row _ _ _ hv hl);have ei:((i:Int)-1).toNat=i-1:=by omega
 have hll:l.length≤1000000:=by
  have hm:l∈sc:=List.mem_of_getElem? hl;have:=(List.sublist_flatten_of_mem hm).length_le;rw [hfl] at this;omega
 refine Yw (kq (Zj (Yx (Zj (Zl (Zv J (Vy J (Xg Xf J (Xl Yo J ((h.B.grow g).at_ J) (Zv J (Zma Yt J J O hpa (Xl Vh J (by rw [ei];exact (Ha (g.block (Ga _ _ hcell))).trans hcell) (Yha Wv J (Zz J (fun _=>Xca (Zd J) Xa (fun _=>O)) (Yr J (Ze (kq (?_))))))))))))))))));refine Yx (Vv (fun (k:Nat) u2=>(k≤l.length∧findV (l.drop k) s=none)∧G u1 u2) [(0,True,_),(1,True,_),(4,True,_),(6,True,_)] (fun (k:Nat)=>[(7,True,.int .i64 ((k:Int)-1))]) (fun (k:Nat)=>k) (l.length) ⟨⟨Aba _,by rw [List.drop_length];rfl⟩,G.refl _⟩ (Za rfl (Za rfl (Za rfl (Za rfl (Za rfl (Zr _)))))) ?_);rintro k u2 ⟨hI2,gl2⟩;have g:=g.trans gl2;have gl1:=gl1.trans gl2;replace E:=E.grow gl2;obtain ⟨hk,hf2⟩:=hI2;refine Zj (Zj (Zl (Zv J (Zqg J J (Ze (kq (Wz J (fun h2=>?_) (fun h2=>?_))))))));have hk1:1≤k:=by have:=Wrg h2;omega
 obtain ⟨hpi,hr⟩:=hrow (k-1) O;have ek:((k:Int)-1).toNat=k-1:=by omega
 refine Yw (kq (Zj (Yx (Zj (Zl (Zv J (Vy J (Xg Xf J (Xl Yo J ((h.B.grow g).at_ J) (Zv J (Zma Yt J J O hpa (Xl Vh J (by rw [ei];exact (Ha (g.block (Ga _ _ hcell))).trans hcell) (Zv J (Zma Wv J J O hpi (Xg Voa J (Xl Yy J (by rw [ek];exact (hr.grow g).one (i:=0) J) (?_)))))))))))))))));refine Zv J (Wgd J J (Ze (kq (Wz J (fun h3=>?_) (fun h3=>?_)))));replace h3:=Wrg h3;refine Zj (Zl (Zv J (Vy J (Xg Xf J (Xl Yo J ((h.B.grow g).at_ J) (Zv J (Zma Yt J J O hpa (Xl Vh J (by rw [ei];exact (Ha (g.block (Ga _ _ hcell))).trans hcell) (Zv J (Zma Wv J J O hpi (Wm Ju J J (by rw [ek];exact hr.grow g) (AS fun _ ga _ g E=>?_))))))))))));first|replace gl1:=Yu gl1 ga O|clear gl1|skip
 first|replace gl2:=Yu gl2 ga O|clear gl2|skip
 refine Yr J (Ze (kq (Xo (Yua (rs:=[.cell 4 84,.tmp 5]) (vs:=[_,_]) J J (Zra J Ju J (E.g0.row) (Jna J (Ub))) J ?_))));subst hle;have e:=Uge (sc:=sc) (s:=s) (i:=i-1) (k:=k-1) hi2 O (by rw [show i-1+1=i by omega];exact hf) (by rw [show k-1+1=k by omega];exact hf2) h3;rw [e];exact ⟨rfl,g⟩;replace h3:=Wsg h3;refine Yw (kq (Zl (Zv J (Zz J (fun _=>Xca (Zd J) Xa (fun _=>O)) (Yr J (Wx [(7,_,_),(0,_,_),(1,_,_),(4,_,_),(6,_,_)] (Za J (Za J (Za J (Za J (Za J (Zr _)))))) (Ze (fun a ha=>?_))))))));subst hle;have e2:(k:Int)-1-1=((k-1:Nat):Int)-1:=by omega
 rw [e2] at ha;exact ⟨k-1,ha,⟨⟨O,Jqd (sc:=sc) hi2 O (by rw [show k-1+1=k by omega];exact hf2) h3⟩,gl2⟩,O⟩;have hk0:k=0:=by have:=Wsg h2;omega
 subst hk0;refine Xea J (kq (Zl (Zv J (Zz J (fun _=>Xca (Zd J) Xa (fun _=>O)) (Yr J (Wx [(6,_,_),(0,_,_),(1,_,_),(4,_,_)] (Za J (Za J (Za J (Za J (Zr _))))) (Ze (fun a ha=>?_))))))));subst hle;have e2:(i:Int)-1-1=((i-1:Nat):Int)-1:=by omega
 rw [e2] at ha;exact ⟨i-1,ha,⟨⟨O,Jrd hi2 (by rw [show i-1+1=i by omega];exact hf) hf2⟩,gl1⟩,O⟩;have hi0:i=0:=by have:=Wsg h1;omega
 subst hi0;refine Xea J (kq (Zj (Zl (Vfb Qq Xia pq0 J J (AS fun _ ga _ g E=>?_)))));first|replace gl1:=Yu gl1 ga O|clear gl1|skip
 refine Yr J (Ze (kq (Xo (Yua (rs:=[.cell 4 84,.tmp 5]) (vs:=[_,_]) J J (Zra J Ju J (E.g0.row) (Jna J (Ub))) J ?_))));rw [Bba] at hf;rw [hf];exact ⟨rfl,g⟩
/-! tables -/
def glbF(F:Nd)(s:List UInt8):Ty×Bool:=bif decide (0≤(findD F 6 s).2) then ((ofF (Zb (findD F 6 s).1 0)).1,true) else (ty0,false)
def numF(F:Nd)(s:List UInt8):Int:=bif decide (0≤(findD F 6 s).2) then (findD F 6 s).2 else 0
def fncB(F:Nd)(s:List UInt8):Bool:=decide (0≤(findD F 4 s).2)
def fncV(F:Nd)(pv:Nat→Fa)(s:List UInt8):Fa:=bif fncB F s then fnV (findD F 4 s).2.toNat (pv (findD F 4 s).2.toNat) (resT (findD F 4 s).1) else fnV 0 (.slice none 0 0) ty0
section
variable {n:Nat} {σ:List Ent} {c:Prop} {wb:Aa} {ty b:Nat} {x y:Operand} {F:Nd} {s:List UInt8}
theorem Xde(h:MapS wb b (numK 6 (fun _ d=>tyV (ofF (Zb d 0)).1) F.kids 0))(hx:Ev n σ c x (.map (some b)))(hy:Ev n σ c y (Str s)) :
 Rd PP n σ c wb (.lookup 52 x y true) ty (.tuple #[tyV (glbF F s).1,.bool (glbF F s).2]):=by
 have k:=Jhc (ty:=ty) Via Ydf Xk h hx hy
 have e:(lookS (numK 6 (fun _ d=>tyV (ofF (Zb d 0)).1) F.kids 0) s).getD (.agg #[.int .i64 0,.string ⟨#[]⟩])=tyV (glbF F s).1∧(lookS (numK 6 (fun _ d=>tyV (ofF (Zb d 0)).1) F.kids 0) s).isSome=(glbF F s).2:=by
  rw [Zgb];unfold glbF findD;cases decide (0≤(findK 6 s F.kids 0).2) <;> exact ⟨rfl,rfl⟩
 rw [← e.1,← e.2];exact k
theorem Qaf(h:MapS wb b (numK 6 (fun k _=>.int .i64 k) F.kids 0))(hx:Ev n σ c x (.map (some b)))(hy:Ev n σ c y (Str s)) :
 Rd PP n σ c wb (.lookup 53 x y false) ty (.int .i64 (numF F s)):=by
 have k:=Vpc (ty:=ty) Via Jvf Zjc h hx hy
 have e:(lookS (numK 6 (fun k _=>Value.int .i64 k) F.kids 0) s).getD (.int .i64 0) = .int .i64 (numF F s):=by
  rw [Zgb];unfold numF findD;cases hq:decide (0≤(findK 6 s F.kids 0).2);rfl;show Value.int .i64 ((findK 6 s F.kids 0).2.toNat:Int) = .int .i64 (findK 6 s F.kids 0).2;rw [Bta (Wrg hq)]
 rw [← e];exact k
theorem Zae{pv:Nat→Fa}{V:Fa}(ef:fncV F pv s=V)(h:MapS wb b (numK 4 (fun k d=>fnV k (pv k) (resT d)) F.kids 0))(hx:Ev n σ c x (.map (some b)))(hy:Ev n σ c y (Str s)) :
 Rd PP n σ c wb (.lookup 54 x y true) ty (.tuple #[V,.bool (fncB F s)]):=by
 subst ef;have k:=Jhc (ty:=ty) Via Xbe Uf h hx hy
 have e:(lookS (numK 4 (fun k d=>fnV k (pv k) (resT d)) F.kids 0) s).getD (fnV 0 (.slice none 0 0) ty0)=fncV F pv s∧(lookS (numK 4 (fun k d=>fnV k (pv k) (resT d)) F.kids 0) s).isSome=fncB F s:=by
  rw [Zgb];unfold fncV fncB findD;cases decide (0≤(findK 4 s F.kids 0).2) <;> exact ⟨rfl,rfl⟩
 rw [← e.1,← e.2];exact k
end
theorem Uac{F:Nd}{TB:List Nat}{ms mg mn mf:Nat}{pv:Nat→Fa}{w:Aa}(T:Tab F TB ms mg mn mf pv w)(s:List UInt8):∃ k p m c y,fncV F pv s=fnV k (.slice p m c) y∧(fncB F s=true→k=(findD F 4 s).2.toNat∧pv k = .slice p m c∧y=resT (findD F 4 s).1):=by
 unfold fncV;cases hq:fncB F s;exact ⟨0,none,0,0,ty0,rfl,fun h=>by cases h⟩;obtain ⟨p,c,e,_⟩:=T.hp s (Wrg hq);exact ⟨_,p,_,c,_,by rw [← e];rfl,fun _=>⟨rfl,e,rfl⟩⟩
def glbR(F:Nd)(S:CSt)(s:List UInt8):Ty×Bool:=bif (findV S.vars s).isSome then (ty0,false) else glbF F s
theorem Zbe{F:Nd}{n0 b:Nat}{TB X:List Nat}{r0:Option (List Ty)}{S:CSt}{w:Aa}{N:Nat}(h:PC F n0 b TB X r0 S w)(hb:Bd S N)(hN:N≤1000000)(s:List UInt8):Ret PP 184 #[.pointer (some ⟨b,0,none⟩),Str s] w fun r w'=>r = .tuple #[tyV (glbR F S s).1,.bool (glbR F S s).2]∧G w w':=by
 obtain ⟨fv,ms,mg,mn,mf,pv,sv,cv,rv,vs,sc,h⟩:=h;have g:=G.refl w;refine WK 29 [0,1] Tryz.func184 ?_;refine AM fun _ _ _ _ g E=>?_;refine AU ?_;refine CL (Vzc (h.grow g).pc hb hN s) ?_;rintro _ _ ⟨rfl,ga⟩;refine RC fun g E=>?_;refine AN fun _ _ _ _ g E=>?_;refine AS fun _ _ _ g E=>?_;refine IF (fun h1=>?_) fun h1=>?_;have e:glbR F S s=(ty0,false):=by unfold glbR;rw [h1];rfl
 refine AS fun _ _ _ g E=>?_;refine Yr J (Ze (kq (Xo (Yua (rs:=[.cell 4 24,.tmp 5]) (vs:=[_,_]) J J (Zra J Zm J (E.g1.row) (Jna J (Ub))) J ?_))));rw [e];exact ⟨rfl,g⟩;have e:glbR F S s=glbF F s:=by unfold glbR;rw [h1];rfl
 refine Yw (kq (Zj (Qua [3,3,3,0,3,0,3,3,3,1,2,3] (Zv J (Vy J (Xg Ywa J (Xl Ji J ((h.B.grow g).at_ J) (Zv J (Uz J (Xde (h.T.hg.grow g) (Zd J) (Zd J)) (Zv J (Qo J J (Qo J J (AN fun _ _ _ _ g E=>?_)))))))))))));refine AS fun _ _ _ g E=>?_;refine AS fun _ _ _ g E=>?_;refine RTN ?_;rw [e];exact ⟨rfl,g⟩
theorem Zce{F:Nd}{n0 b:Nat}{TB X:List Nat}{r0:Option (List Ty)}{S:CSt}{w:Aa}{N:Nat}(h:PC F n0 b TB X r0 S w)(hb:Bd S N)(hN:N≤1000000)(s:List UInt8):Ret PP 171 #[.pointer (some ⟨b,0,none⟩),Str s] w fun r w'=>(∃ k m z c y,r = .tuple #[fnV k (.slice m z c) y,.bool (!(findV S.vars s).isSome&&fncB F s)]∧((!(findV S.vars s).isSome&&fncB F s)=true→k=(findD F 4 s).2.toNat∧y=resT (findD F 4 s).1∧RowM TB w' (parT (findD F 4 s).1) (.slice m z c)))∧G w w':=by
 obtain ⟨fv,ms,mg,mn,mf,pv,sv,cv,rv,vs,sc,h⟩:=h;obtain ⟨k,up,um,uc,y,ef,hf⟩:=Uac h.T s;have g:=G.refl w;refine WK 29 [0,1] Tryz.func171 ?_;refine AM fun _ _ _ _ g E=>?_;refine AU ?_;refine CL (Vzc (h.grow g).pc hb hN s) ?_;rintro _ _ ⟨rfl,ga⟩;refine RC fun g E=>?_;refine AN fun _ _ _ _ g E=>?_;refine AS fun _ _ _ g E=>?_;refine IF (fun h1=>?_) fun h1=>?_;have e:(!(findV S.vars s).isSome&&fncB F s)=false:=by rw [h1];rfl
 refine AS fun _ _ _ g E=>?_;refine Yr J (Ze (kq (Xo (Yua (rs:=[.cell 4 61,.tmp 5]) (vs:=[_,_]) J J (Zra J Qca J (E.g1.row) (Jna J (Ub))) J ?_))));rw [e];exact ⟨⟨0,none,0,0,ty0,rfl,fun q=>by cases q⟩,g⟩;have e:(!(findV S.vars s).isSome&&fncB F s)=fncB F s:=by rw [h1];rfl
 refine Yw (kq (Zj (Qua [3,3,3,0,3,0,3,3,3,1,2,3] (Zv J (Vy J (Xg Qh J (Xl Wu J ((h.B.grow g).at_ J) (Zv J (Uz J (Zae ef (h.T.hf.grow g) (Zd J) (Zd J)) (Zv J (Qo J J (Qo J J (AN fun _ _ _ _ g E=>?_)))))))))))));refine AS fun _ _ _ g E=>?_;refine AS fun _ _ _ g E=>?_;refine RTN ?_
 rw [e];exact ⟨⟨k,up,um,uc,y,rfl,fun q=>by
  obtain ⟨q1,q2,q3⟩:=hf q;refine ⟨q1,q3,?_⟩;rw [← q2,q1];exact (h.grow g).T.hp s (Wrg q)⟩,g⟩
def FRes(F:Nd):Prop:=∀ s,0≤(findD F 4 s).2→tyEqB (resT (findD F 4 s).1) ty0=decide ((Zb (findD F 4 s).1 1).kind=9)
theorem Ylc{F:Nd}{S:CSt}{t:Nd}{v:Vr}(hv:findV S.vars t.text=some v):lookR F S t=(.mk t.kind t.text v.num t.pos [] v.typ 1 ((S.level:Int)-v.level),true):=by
 unfold lookR;rw [hv]
theorem Ymc{F:Nd}{S:CSt}{t:Nd}(hv:findV S.vars t.text=none)(hg:(glbF F t.text).2=true):lookR F S t=(.mk t.kind t.text (numF F t.text) t.pos [] (glbF F t.text).1 2 0,true):=by
 have hq:decide (0≤(findD F 6 t.text).2)=true:=by
  cases hq:decide (0≤(findD F 6 t.text).2);unfold glbF at hg;rw [hq] at hg;cases hg;rfl
 unfold lookR numF glbF;rw [hv];dsimp only;rw [hq];rfl
theorem Jqb{F:Nd}{S:CSt}{t:Nd}(hv:findV S.vars t.text=none)(hg:(glbF F t.text).2=false):lookR F S t=bif fncB F t.text then (.mk t.kind t.text (findD F 4 t.text).2 t.pos [] (fncTy (findD F 4 t.text).1) 3 0,true) else (clnT t,false):=by
 have hq:decide (0≤(findD F 6 t.text).2)=false:=by
  cases hq:decide (0≤(findD F 6 t.text).2);rfl;unfold glbF at hg;rw [hq] at hg;cases hg
 unfold lookR fncB;rw [hv];dsimp only;rw [hq];rfl
theorem Ync{F:Nd}{n0 b:Nat}{TB X:List Nat}{r0:Option (List Ty)}{S:CSt}{w:Aa}{N:Nat}(t:Nd)(p:Option Addr)(c:Nat)(h:PC F n0 b TB X r0 S w)(hb:Bd S N)(hN:N≤1000000)(hR:FRes F)(hk:numS t=0) :
 RetP PP 138 #[.pointer (some ⟨b,0,none⟩),ndV t (.slice p t.kids.length c)] w (fun r w'=>(lookR F S t).2=true∧r=ndV (lookR F S t).1 (.slice none 0 0)∧G w w') (fun ch w'=>(lookR F S t).2=false∧ch=[failE t.pos 5]∧G w w'):=by
 obtain ⟨fv,ms,mg,mn,mf,pv,sv,cv,rv,vs,sc,h⟩:=h;obtain ⟨k,up,um,uc,y,ef,hf⟩:=Uac h.T t.text;obtain ⟨pc,cc,rfl,hcc⟩:=Zpa h.co;have hbl:=h.B.lt;have hlv:=hb.lv;have hnl:=hb.nl;have g:=G.refl w;refine Vi (m:=94) Tryz.func138 J J [(0,True,_),(1,True,_)] (Za J (Za J (Zr _))) ?_;refine BM fun _ _ _ _ g E=>?_;refine AN fun _ _ _ _ g E=>?_;refine AU ?_;refine CL (Jn t _ _ _) ?_;rintro _ _ ⟨rfl,ga⟩;refine RC fun g E=>?_;refine AN fun b5 _ _ _ g E=>?_;refine AS fun _ _ _ g E=>?_;refine AU ?_;refine CL (Vzc (h.grow g).pc hb hN t.text) ?_;rintro _ _ ⟨rfl,ga⟩;refine RC fun g E=>?_;refine AN fun _ _ _ _ g E=>?_;refine AS fun _ _ _ g E=>?_;refine IF (fun h1=>?_) fun h1=>?_;obtain ⟨v,hv⟩:=Option.isSome_iff_exists.1 h1;simp only [hv,Option.getD_some] at E;have e:=Ylc (F:=F) hv;have hvl:v.level≤N:=(hb.vs v (List.mem_reverse.1 (Bua hv))).2.1;refine AU ?_;refine Xh (rowR (some b5)) [3,0,3,3,3,0,3,3,3,0,3,3,0,3,1,3,1,3,1,3,1] [0,1,0,4,12,28,60,124,0,256,1020,0,2048,0,8192,24579,57347,124927,255999,524287,1048575] mix KR [0,1,2,3,4,5,6,7,8,9,10,11,12,13,14,15,16,17,18,19,20] J ?_;have g:=gdr g;replace E:=E.dr
 refine Zx 0 J J (fun _=>Zi Vqa (Zd J)) (Yi 1 J J (fun w1 hx=>Zq Yf (Zd J) (fun _=>(E.g0.keep hx (fun h=>E.ne 0 1 J J J (Option.some.inj h))).at_ J)) (Zx 2 J J (fun _=>Zw (Zd J)) (Zx 3 J J (fun _=>Zna (Zd J)) (Zx 4 J J (fun _=>Zi Jt (Zd J)) (Yi 5 J J (fun w1 hx=>Zq Zwb (Zd J) (fun _=>((h.B.grow g).keep hx (by intro q;injection q with q;omega)).at_ J)) (Zx 6 J J (fun _=>Ysa Zca (Zd J)) (Zx 7 J J (fun _=>Xca (Zd J) Xa (fun _=>O)) (Zx 8 J J (fun _=>Zi Vra (Zd J)) (Yi 9 J J (fun w1 hx=>Zq Yf (Zd J) (fun _=>(E.g0.keep hx (fun h=>E.ne 0 1 J J J (Option.some.inj h))).at_ J)) (Zx 10 J J (fun _=>Xca (Zd J) (Zd J) (fun _=>O)) (Zx 11 J J (fun _=>Zi Vpa (Zd J)) (Yi 12 J J (fun w1 hx=>Zo Zm (Zd J) J (fun _=>(E.g0.keep hx (fun h=>E.ne 0 1 J J J (Option.some.inj h))).row.part 1 2)) (Zx 13 J J (fun _=>Zi Zba (Zd J)) (Zt 14 J J ?_))))))))))))));refine Zn (L':=[15,16,17,18,19,20]) [3,0,3,3,3,0,3,3,3,0,3,3,0,3,2,3,2,3,2,3,2] J J J ?_;refine AS fun _ hgS3 _ g E=>?_;refine Zy (hgS3) ?_;refine Zx 15 J J (fun _=>Zi Ur (Zd J)) (Zt 16 J J ?_);refine Zn (L':=[17,18,19,20]) [3,0,3,3,3,0,3,3,3,0,3,3,0,3,2,3,2,3,2,3,2] J J J ?_;refine AS fun _ hgS4 _ g E=>?_;refine Zy (hgS4) ?_;refine Zx 17 J J (fun _=>Zi Jka (Zd J)) (Zt 18 J J ?_);refine Zn (L':=[19,20]) [3,0,3,3,3,0,3,3,3,0,3,3,0,3,2,3,2,3,2,3,2] J J J ?_;refine AS fun _ hgS5 _ g E=>?_;refine Zy (hgS5) ?_;refine Zx 19 J J (fun _=>Zi Yk (Zd J)) (Zt 20 J J ?_);refine Zn (L':=[]) [3,0,3,3,3,0,3,3,3,0,3,3,0,3,2,3,2,3,2,3,2] J J J ?_;refine Xn J Xv (Zd J) (Zd J) J J E.g1 J J ?_;intro wS6 hgS6 _ BS;replace E:=E.s1 hgS6 BS;have g:=Yu g hgS6 O;refine Zy (hgS6) ?_
 refine TK [0,3,4,5] ?_;refine AS fun _ _ _ g E=>?_;refine RTN ?_;rw [e];refine ⟨rfl,?_,g⟩;have el:(((S.level+1:Nat):Int)-1-(v.level:Int))=(S.level:Int)-v.level:=by omega
 rw [el];rfl;have hv:findV S.vars t.text=none:=by simpa using h1
 refine AU ?_;refine Xs [3,3,3,0,3,0,0,3,3,3,1,2,3] [true,true,true,true,true,true,true,true,true,true,true,true,true] [0,1,3,7,0,16,63,127,255,255,0,1535,4095] mix KR ?_;have g:=gdr g;replace E:=E.dr;refine Zv J (Vy J (Xg Ywa J (Xl Ji J ((h.B.grow g).at_ J) (Xg Xe J (Xl Yy J (E.g3.at_ J) (Uz J (Xde (h.T.hg.grow g) (Zd J) (Zd J)) (Zv J (Qo J J (Qo J J (AN fun _ _ _ _ g E=>?_))))))))));refine AS fun _ _ _ g E=>?_;refine IF (fun h2=>?_) fun h2=>?_;have e:=Ymc (S:=S) hv h2;refine AU ?_;refine Xh (rowR (some b5)) [3,3,3,0,3,0,0,0,3,1,3,1,3,1] [0,1,3,7,0,16,63,0,0,256,895,1919,4095,8191] mix KR [0,1,2,3,4,5,6,7,8,9,10,11,12,13] J ?_;have g:=gdr g;replace E:=E.dr;refine Zx 0 J J (fun _=>Zw (Zd J)) (Zx 1 J J (fun _=>Zna (Zd J)) (Zx 2 J J (fun _=>Zi Qba (Zd J)) (Yi 3 J J (fun w1 hx=>Zq Uza (Zd J) (fun _=>((h.B.grow g).keep hx (by intro q;injection q with q;omega)).at_ J)) (Zx 4 J J (fun _=>Zi Xe (Zd J)) (Yi 5 J J (fun w1 hx=>Zq Yy (Zd J) (fun _=>(E.g4.keep hx (fun h=>E.ne 4 2 J J J (Option.some.inj h))).at_ J)) (Yi 6 J J (fun w1 hx=>Qaf ((h.T.hn.grow g).keep hx (by intro q;injection q with q;have:=h.T.hn.lt;omega)) (Zd J) (Zd J)) (Yi 7 J J (fun w1 hx=>Zo Zm (Zd J) J (fun _=>(E.g0.keep hx (fun h=>E.ne 0 2 J J J (Option.some.inj h))).row)) (Zx 8 J J (fun _=>Zi Zba (Zd J)) (Zt 9 J J ?_)))))))));refine Zn (L':=[10,11,12,13]) [3,3,3,0,3,0,0,0,3,2,3,2,3,2] J J J ?_;refine AS fun _ hgS9 _ g E=>?_;refine Zy (hgS9) ?_;refine Zx 10 J J (fun _=>Zi Ur (Zd J)) (Zt 11 J J ?_);refine Zn (L':=[12,13]) [3,3,3,0,3,0,0,0,3,2,3,2,3,2] J J J ?_;refine AS fun _ hgS10 _ g E=>?_;refine Zy (hgS10) ?_
 refine Zx 12 J J (fun _=>Zi Yk (Zd J)) (Zt 13 J J ?_);refine Zn (L':=[]) [3,3,3,0,3,0,0,0,3,2,3,2,3,2] J J J ?_;refine Xn J Xv (Zd J) (Zd J) J J E.g2 J J ?_;intro wS11 hgS11 _ BS;replace E:=E.s2 hgS11 BS;have g:=Yu g hgS11 O;refine Zy (hgS11) ?_;refine TK [0,3,4,5] ?_;refine AS fun _ _ _ g E=>?_;refine RTN ?_;rw [e];exact ⟨rfl,rfl,g⟩;have e:=Jqb (S:=S) hv h2;refine AU ?_;refine Xs [3,3,3,0,3,0,0,3,3,3,1,2,3] [true,true,true,true,true,true,true,true,true,true,true,true,true] [0,1,3,7,0,16,63,127,255,255,0,1535,4095] mix KR ?_;have g:=gdr g;replace E:=E.dr;refine Zv J (Vy J (Xg Qh J (Xl Wu J ((h.B.grow g).at_ J) (Xg Xe J (Xl Yy J (E.g4.at_ J) (Uz J (Zae ef (h.T.hf.grow g) (Zd J) (Zd J)) (Zv J (Qo J J (Qo J J (AN fun _ _ _ _ g E=>?_))))))))));refine AS fun _ _ _ g E=>?_;refine AU ?_;refine Y3 J Ye J J J (Vf _ _ _ _) ((fun ch w' hz=>⟨by rw [e,hz.1];rfl,hz.2.1,g.trans hz.2.2⟩)) ?_;rintro v76 w76 ⟨rfl,hq,g76⟩;refine ⟨fun _=>g76,?_⟩;have g:=g.trans g76;obtain ⟨f1,f2,f3⟩:=hf hq;rw [hq,Wug] at e
 have hum:um=(Zb (findD F 4 t.text).1 0).kids.length:=by
  obtain ⟨p',c',e',_⟩:=h.T.hp t.text (Wrg hq);rw [← f1,f2] at e';injection e' with _ e' _;rw [e'];unfold parT;rw [List.length_map]
 have hres:=hR t.text (Wrg hq);rw [← f3] at hres;have hkk:((k:Nat):Int)=(findD F 4 t.text).2:=by rw [f1];exact Bta (Wrg hq)
 replace E:=E.grow g76;refine Ze (kq (Zj (Xh (rowR (some b5)) [3,0,3,1,3,1] [0,1,0,4,15,31] mix KR [0,1,2,3,4,5] J ?_)));have g:=gdr g;replace E:=E.dr;refine Zx 0 J J (fun _=>Zi Vna (Zd J)) (Yi 1 J J (fun w1 hx=>Zq Yf (Zd J) (fun _=>(E.g0.keep hx (fun h=>E.ne 0 3 J J J (Option.some.inj h))).at_ J)) (Zx 2 J J (fun _=>Zi Zba (Zd J)) (Zt 3 J J ?_)));refine Zn (L':=[4,5]) [3,0,3,2,3,2] J J J ?_;refine AS fun _ hgS14 _ g E=>?_;refine Zy (hgS14) ?_;refine Zx 4 J J (fun _=>Zi Ur (Zd J)) (Zt 5 J J ?_);refine Zn (L':=[]) [3,0,3,2,3,2] J J J ?_;refine AS fun _ hgS15 _ g E=>?_;refine Zy (hgS15) ?_;refine Wra [(4,_,_),(5,_,_),(10,_,_)] (Za J (Za J (Za J (Zr _)))) (Jg (kq (Zj (Zj (Zl (Xg Qz J (Xl Vw J (E.g0.at_ J) (Yha Wf J (Zea J J (Zv J (Zk J J J (fun _=>Zi Ja (Zd J)) (Yg J J J (Zo Zm (Zp J id) J (fun _=>E.g0.row.part 2 2)) (Zk J J J (fun _=>Uv [_,_] Xk J Vm (Vj) J) (Zk J J J (fun _=>Qx Wo (Zp J id) (Zp J id) J) (Zz J (fun _=>Yn (Zd J) (Zp J id)) (Ze (kq (?_))))))))))))))))));refine Wz J (fun h3=>?_) (fun h3=>?_);have ey:fncTy (findD F 4 t.text).1=tFunc:=by unfold fncTy;rw [← hres,← hum,show (decide ((um:Int)=0)&&tyEqB y ty0)=true from h3];rfl
 refine Zl (Wm Zm J J (h.L.hC.2.2.2.2.2.grow g) (Xg Yk J (Xn J Xv (Zd J) (Zd J) J J E.g3 J J ?_)));intro wS16 hgS16 _ BS;replace E:=E.s3 hgS16 BS;have g:=Yu g hgS16 O;refine AS fun _ _ _ g E=>?_;refine RTN ?_;rw [e];refine ⟨rfl,?_,g⟩;rw [ey,← hkk];rfl;have ey:fncTy (findD F 4 t.text).1=ty0:=by unfold fncTy;rw [← hres,← hum,show (decide ((um:Int)=0)&&tyEqB y ty0)=false from h3];rfl
 refine AS fun _ _ _ g E=>?_;refine RTN ?_;rw [e];refine ⟨rfl,?_,g⟩;rw [ey,← hkk];rfl
def CxM(M:Nat)(F:Nd)(fn:FuncId)(t:Nd)(f:CSt→Nd×CSt):Prop:=∀ {n0 b:Nat} {TB X:List Nat} {r0:List Ty} {S:CSt} {w:Aa} {v:Fa} {N:Nat},PC F n0 b TB X (some r0) S w→S.ee=0→CanV S→Kd w (fun k=>k<n0) t.kids v→Bd S N→N+count t≤M→
 RetP PP fn #[.pointer (some ⟨b,0,none⟩),ndV t v] w (fun r w'=>(f S).2.ee=0∧RetN (f S).1 w.heap.size r w'∧PC F n0 b TB X (some r0) (f S).2 w'∧GT (mutC X) n0 w w') (Bad n0 b X (S.scope+1) (f S).2 w)
theorem CxM.to{M:Nat}{F:Nd}{fn:FuncId}{t:Nd}{f:CSt→Nd×CSt}(H:CxM M F fn t f){n0 b:Nat}{TB X:List Nat}{r0:List Ty}{S:CSt}{w:Aa}{v:Fa}{N m0:Nat}(Z:List Nat)(h:PC F n0 b TB X (some r0) S w)(he:S.ee=0)(hc:CanV S)(hk:Kd w (fun k=>k<n0) t.kids v)(hb:Bd S N)(hn:N+count t≤M)(hZ:∀ j∈Z,j<w.heap.size)(hm:m0≤w.heap.size) :
 RetP PP fn #[.pointer (some ⟨b,0,none⟩),ndV t v] w (fun r w'=>(∃ p c,r=ndV (f S).1 (.slice p (f S).1.kids.length c)∧m0≤w.heap.size∧KdX w.heap.size Z w' (f S).1.kids (.slice p (f S).1.kids.length c))∧(f S).2.ee=0∧PC F n0 b TB X (some r0) (f S).2 w'∧GT (mutC X) n0 w w') (Bad n0 b X (S.scope+1) (f S).2 w) :=
 (H h he hc hk hb hn).mono (fun r w' hr=>by
 obtain ⟨h0,⟨p,c,e,k⟩,h1,h2⟩:=hr;exact ⟨⟨p,c,e,hm,KdN.x k hZ⟩,h0,h1,h2⟩) fun _ _ h=>h
structure Fx (f:CSt→Nd×CSt):Prop where
  can:∀ S,Sc S→CanV S→Can (f S).1.ty
  sc:∀ S,(f S).2.scope=S.scope
theorem Ygf{M:Nat}{F t:Nd}{f:CSt→Nd×CSt}(H:CxM M F 113 t f)(HF:Fx f){k:Int}(hk4:k≠4){n0 b:Nat}{TB X:List Nat}{r0:List Ty}{S:CSt}{w:Aa}{v:Fa}{N:Nat}(h:PC F n0 b TB X (some r0) S w)(he:S.ee=0)(hc:CanV S)(hk0:Kd w (fun k=>k<n0) t.kids v)(hb:Bd S N)(hn:N+count t≤M) :
 RetP PP 114 #[.pointer (some ⟨b,0,none⟩),ndV t v,tyV ⟨k,[]⟩] w (fun r w'=>(wantS (f S).1 k t.pos (f S).2).ee=0∧wantS (f S).1 k t.pos (f S).2=(f S).2∧RetN (f S).1 w.heap.size r w'∧PC F n0 b TB X (some r0) (f S).2 w'∧GT (mutC X) n0 w w') (Bad n0 b X (S.scope+1) (wantS (f S).1 k t.pos (f S).2) w):=by
 obtain ⟨p,c,rfl,_⟩:=id hk0;have hlt:=h.lt;have htb:=h.tb;have hsc:=h.scs;have g:=GT.refl (mutC X) n0 w;refine Vi (m:=19) Tryz.func114 J J [(0,True,_),(1,True,_),(2,True,_)] (Za J (Za J (Za J (Zr _)))) ?_;refine BM fun b4 _ ga _ g E=>?_;have hp4:=h;have h:=Ui h;have hk0:=Ui hk0;refine BN fun b5 _ N5 _ g E=>?_;have hp5:=h;have h:=h.grow (N5.g);have hk0:=hk0.grow (N5.g);have h:=hp5.addX N5;refine AN fun b6 _ ga _ g E=>?_;have hp6:=h;have h:=Ui h;have hk0:=Ui hk0;refine AU ?_;refine Y2 J Xt J J (CxM.to H [b4,b5,b6] h he hc hk0 hb hn (E.ltm Ob) g.size) ((fun ch w' hz=>Bad.pass hz ((Er.refl _).failu _ _ _) (Aba _) g)) ?_;rintro v10 w10 ⟨⟨p10,c10,rfl,q10,k10⟩,he1,h,g10⟩;refine ⟨nw1,?_⟩;have g:=gtw g g10;replace E:=E.gtx g10;have hE:=Qdb (HF.can S hsc hc) hk4;have eW:wantS (f S).1 k t.pos (f S).2=failU (tyEqB (f S).1.ty ⟨k,[]⟩) t.pos 7 (f S).2:=by unfold wantS;rw [hE]
 refine AN fun _ _ ga _ g E=>?_;have hp7:=h;have k10:=Uj k10;have h:=Ui h;refine AS fun _ ga Ca g E=>?_;have h:=h.keep ga Ca O (.inl rfl);have k10:=k10.keep ga Oi;refine AU ?_;refine Xh (rowR none) [3,0,0,3,3,0,1] [0,1,0,7,0,16,63] mix KR [0,1,2,3,4,5,6] J ?_;have g:=gtd g;replace E:=E.dr;have h:=h.grow (G.drew _);have k10:=k10.grow (G.drew _);refine Zx 0 J J (fun _=>Zi Yk (Zd J)) (Yi 1 J J (fun w1 hx=>Zo Zm (Zd J) J (fun _=>(E.g0.keep hx (fun h=>nomatch h)).row.part 5 2)) (Yi 2 J J (fun w1 hx=>Zo Zm (Zd J) J (fun _=>(E.g2.keep hx (fun h=>nomatch h)).row)) (Zx 3 J J (fun _=>Qx Wo (Zd J) (Zd J) J) (Zx 4 J J (fun _=>Zi Xz (Zd J)) (Yi 5 J J (fun w1 hx=>Zq Yf (Zd J) (fun _=>(E.g3.keep hx (fun h=>nomatch h)).at_ J)) (Zt 6 J J ?_))))));refine Zn (L':=[]) [3,0,0,3,3,0,1] J J J ?_;refine Y3 J Ye J J J (Vf _ _ _ _) ((fun ch w' hz=>Ul (h.sub (Y:=X) htb.1 (by intro j hj;simp [hj])) he1 Od (by rw [eW];exact Er.refl _) hz g (by rw [HF.sc];exact Aba _))) ?_;rintro v17 w17 ⟨rfl,hq,g17⟩;refine ⟨fun _=>g17,?_⟩;have g:=gtg g g17;have h:=h.grow g17;replace E:=E.grow g17;have k10:=k10.grow g17;refine Zy (g17.only _) ?_;refine TK [6,7] ?_;refine AS fun _ ga Ca g E=>?_;have h:=h.keep ga Ca O (.inl rfl);have k10:=k10.keep ga Oi;refine RTN ?_;have e:wantS (f S).1 k t.pos (f S).2=(f S).2:=by rw [eW,show tyEqB (f S).1.ty ⟨k,[]⟩=true from hq];rfl
 rw [e];exact ⟨he1,rfl,Xp rfl (k10.kdN q10),h.sub htb.1 (by intro j hj;simp [hj]),g⟩
theorem Zde{M:Nat}{F t:Nd}{f:CSt→Nd×CSt}(H:CxM M F 113 t f)(HF:Fx f)(y:Ty){n0 b:Nat}{TB X:List Nat}{r0:List Ty}{S:CSt}{w:Aa}{v:Fa}{N:Nat}(h:PC F n0 b TB X (some r0) S w)(he:S.ee=0)(hc:CanV S)(hk0:Kd w (fun k=>k<n0) t.kids v)(hb:Bd S N)(hn:N+count t≤M) :
 RetP PP 112 #[.pointer (some ⟨b,0,none⟩),ndV t v,tyV y] w (fun r w'=>(failU (Us y (f S).1.ty) t.pos 7 (f S).2).ee=0∧failU (Us y (f S).1.ty) t.pos 7 (f S).2=(f S).2∧RetN (f S).1 w.heap.size r w'∧PC F n0 b TB X (some r0) (f S).2 w'∧GT (mutC X) n0 w w') (Bad n0 b X (S.scope+1) (failU (Us y (f S).1.ty) t.pos 7 (f S).2) w):=by
 obtain ⟨p,c,rfl,_⟩:=id hk0;have hlt:=h.lt;have htb:=h.tb;have hsc:=h.scs;have g:=GT.refl (mutC X) n0 w;refine Vi (m:=19) Tryz.func112 J J [(0,True,_),(1,True,_),(2,True,_)] (Za J (Za J (Za J (Zr _)))) ?_;refine BM fun b4 _ ga _ g E=>?_;have hp4:=h;have h:=Ui h;have hk0:=Ui hk0;refine BN fun b5 _ N5 _ g E=>?_;have hp5:=h;have h:=h.grow (N5.g);have hk0:=hk0.grow (N5.g);have h:=hp5.addX N5;refine AN fun b6 _ ga _ g E=>?_;have hp6:=h;have h:=Ui h;have hk0:=Ui hk0;refine AU ?_;refine Y2 J Xt J J (CxM.to H [b4,b5,b6] h he hc hk0 hb hn (E.ltm Ob) g.size) ((fun ch w' hz=>Bad.pass hz ((Er.refl _).failu _ _ _) (Aba _) g)) ?_;rintro v10 w10 ⟨⟨p10,c10,rfl,q10,k10⟩,he1,h,g10⟩;refine ⟨nw1,?_⟩;have g:=gtw g g10;replace E:=E.gtx g10;refine AN fun _ _ ga _ g E=>?_;have hp7:=h;have k10:=Uj k10;have h:=Ui h;refine AS fun _ ga Ca g E=>?_;have h:=h.keep ga Ca O (.inl rfl);have k10:=k10.keep ga Oi;refine AU ?_;refine Xh (rowR none) [0,3,0,1,3,0,1] [0,0,2,7,0,16,63] mix KR [0,1,2,3,4,5,6] J ?_;have g:=gtd g;replace E:=E.dr;have h:=h.grow (G.drew _);have k10:=k10.grow (G.drew _);refine Yi 0 J J (fun w1 hx=>Zo Zm (Zd J) J (fun _=>(E.g2.keep hx (fun h=>nomatch h)).row)) (Zx 1 J J (fun _=>Zi Yk (Zd J)) (Yi 2 J J (fun w1 hx=>Zo Zm (Zd J) J (fun _=>(E.g0.keep hx (fun h=>nomatch h)).row.part 5 2)) (Zx 4 J J (fun _=>Zi Xz (Zd J)) (Yi 5 J J (fun w1 hx=>Zq Yf (Zd J) (fun _=>(E.g3.keep hx (fun h=>nomatch h)).at_ J)) (Zt 3 J J ?_)))));refine Zn (L':=[6]) [0,3,0,1,3,0,1] J J J ?_;refine CL (Qxd y (f S).1.ty _ h.laid.hL h.laid.hb) ?_;rintro v14 w14 ⟨rfl,g14⟩
 refine ⟨fun _=>g14,?_⟩;have g:=gtg g g14;replace E:=E.grow g14;have h:=h.grow (g14);have k10:=k10.grow (g14);refine Zy ((g14).only _) ?_;refine Zt 6 J J ?_;refine Zn (L':=[]) [0,3,0,1,3,0,1] J J J ?_;refine Y3 J Ye J J J (Vf _ _ _ _) ((fun ch w' hz=>Ul (h.sub (Y:=X) htb.1 (by intro j hj;simp [hj])) he1 Od (Er.refl _) hz g (by rw [HF.sc];exact Aba _))) ?_;rintro v17 w17 ⟨rfl,hq,g17⟩;refine ⟨fun _=>g17,?_⟩;have g:=gtg g g17;have h:=h.grow g17;replace E:=E.grow g17;have k10:=k10.grow g17;refine Zy (g17.only _) ?_;refine TK [6,7] ?_;refine AS fun _ ga Ca g E=>?_;have h:=h.keep ga Ca O (.inl rfl);have k10:=k10.keep ga Oi;refine RTN ?_;have e:failU (Us y (f S).1.ty) t.pos 7 (f S).2=(f S).2:=by rw [hq];rfl
 rw [e];exact ⟨he1,rfl,Xp rfl (k10.kdN q10),h.sub htb.1 (by intro j hj;simp [hj]),g⟩
def OwF{α:Type}(f:α→List Fa)(e:Ba)(z base:Nat)(w:Aa)(ks:List α)(s:Fa):Prop:=w.ownsRow base e z s ks.length (ks.flatMap f)∧(ks=[]→s = .slice none 0 0)
def RetF{α:Type}(f:α→List Fa)(w:Aa)(ks:List α)(s:Fa):Prop:=RowF f w ks s∧(ks=[]→s = .slice none 0 0)
section
variable {α:Type} {f:α→List Fa} {e:Ba} {z base:Nat} {w w':Aa} {ks:List α} {s:Fa}
theorem OwF.grow(h:OwF f e z base w ks s)(g:G w w'):OwF f e z base w' ks s:=⟨Xw h.1 g,h.2⟩
theorem OwF.keep(h:OwF f e z base w ks s){j:Nat}{e':Ba}{l:List Fa}(hg:w.grownBy w' (some j))(hB:Blk w j e' l)(he:Ada e e'=false):OwF f e z base w' ks s:=⟨Ym h.1 hg (.inr (Wb h.1 hB he)),h.2⟩
theorem OwF.keepM(h:OwF f e z base w ks s){j:Nat}{l:List Fa}(hg:w.grownBy w' (some j))(hB:MapB w j l):OwF f e z base w' ks s:=by
 refine ⟨Ym h.1 hg (.inr fun hk=>?_),h.2⟩;obtain ⟨es,c,hb,_⟩:=hB;rcases h.1.2 with ⟨h1,_⟩|⟨g,cap,cur,h1,h2,h3,_⟩;rw [h1] at hk;cases hk;rw [h1] at hk;have:g=j:=by injection hk
 subst this;rw [hb] at h3;injection h3 with h3;cases h3
theorem OwF.keepB(h:OwF f e z base w ks s){j:Nat}(hg:w.grownBy w' (some j))(hne:∀ k,s.ownBlock=some k→k≠j):OwF f e z base w' ks s :=
 ⟨Ym h.1 hg (.inr fun hk=>hne j hk rfl),h.2⟩
theorem OwF.ge(h:OwF f e z base w ks s):∀ k,s.ownBlock=some k→base≤k:=fun k hk=>(h.1.lt k hk).1
theorem OwF.lt(h:OwF f e z base w ks s):∀ k,s.ownBlock=some k→k<w.heap.size:=fun k hk=>(h.1.lt k hk).2
theorem OwF.slice(h:OwF f e z base w ks s):∃ a c,s = .slice a ks.length c:=by
 obtain ⟨a,c,h2,_⟩:=Zpa h.1;exact ⟨a,c,h2⟩
theorem OwF.ret(h:OwF f e z base w ks s):RetF f w ks s:=⟨Wud h.1 rfl,h.2⟩
theorem RetF.grow(h:RetF f w ks s)(g:G w w'):RetF f w' ks s:=⟨h.1.grow g,h.2⟩
theorem RetF.slice(h:RetF f w ks s):∃ a c,s = .slice a ks.length c:=by
 obtain ⟨a,c,h2,_⟩:=h.1;exact ⟨a,c,h2⟩
theorem RowF.opt(hf:∀ a,(f a).length=z){p:Option Addr}{n c:Nat}(h:RowF f w ks (.slice p n c)){i:Nat}(hi:i<ks.length):p=some ⟨pb p,po p,none⟩∧RowAt w (pb p) (po p+i*z) (f ks[i]):=by
 obtain ⟨p',c',e1,_,h2⟩:=h;injection e1 with e1 _ _;subst e1;obtain ⟨b,o,rfl,hR⟩:=h2 O;exact ⟨rfl,Jjb hf hR hi⟩
end
section
variable {P:Ea} {Z:List Da→Act→Aa→Prop} {ops:List Oper} {cl:List Nat} {lv:List Bool} {W0:Aa} {n:Nat} {K:Act→Aa→Prop} {k:Nat} {rest:List Oper} {σ:List Ent} {w:Aa} {d:Nat} {ty:Ba} {pos:String} {after:Array Edge}
end
/-! captures -/
structure Lc where
  name:List UInt8
  typ:Ty
  par:Bool
  box:Bool
def fldR(F:Nd)(y:Ty)(s:List UInt8):Ty×Bool×Bool:=bif decide (y.kind=4) then (match (Ut F y.name).1.find? fun f=>decide (f.name=s) with|some f=>(f.ty,true,true)|none=>(ty0,true,false)) else (ty0,false,false)
theorem Jmc{F:Nd}{n0 b:Nat}{TB X:List Nat}{r0:Option (List Ty)}{S:CSt}{w:Aa}(x:Nd)(v:Fa)(s:List UInt8)(h:PC F n0 b TB X r0 S w):Ret PP 139 #[.pointer (some ⟨b,0,none⟩),ndV x v,Str s] w fun r w'=>r = .tuple #[tyV (fldR F x.ty s).1,.bool (fldR F x.ty s).2.1,.bool (fldR F x.ty s).2.2]∧G w w':=by
 obtain ⟨fv,ms,mg,mn,mf,pv,sv,cv,rv,vs,sc,h⟩:=h;have g:=G.refl w;refine WK 43 [0,1,2] Tryz.func139 ?_;refine BM fun _ _ _ _ g E=>?_;refine AN fun _ _ _ _ g E=>?_;refine IF (fun h1=>?_) fun h1=>?_;have hk:decide (x.ty.kind=4)=false:=by simpa using h1
 have e:fldR F x.ty s=(ty0,false,false):=by unfold fldR;rw [hk];rfl
 refine AS fun _ _ _ g E=>?_;refine RTN ?_;rw [e];exact ⟨rfl,g⟩;have hk:decide (x.ty.kind=4)=true:=by simpa using h1
 refine Yw (kq (Zj (Xs [3,3,3,0,3,3,0,1,3,3,3,3,3] [true,true,true,true,true,true,true,true,true,true,true,true,true] [0,1,3,7,0,16,48,127,255,511,511,1023,4095] mix KR ?_)));have g:=gdr g;replace E:=E.dr;refine Zv J (Vy J (Xg Qaa J (Wm Zf J J ((h.B.grow g).row.part 0 9) (Xg Yk J (Xg Vzb J (Xl Yy J (E.g1.at_ J) (CL (Qyd F x.ty.name fv (fun k=>k<n0) _ (h.grow g).L.hL (h.grow g).L.hb (h.grow g).L.hT (h.grow g).kF h.hF) ?_)))))));rintro v26 w26 ⟨⟨lv,rfl,hRF⟩,g26⟩;refine ⟨fun _=>g26,?_⟩;obtain ⟨fs,hfs⟩:∃ fs,fs=(Ut F x.ty.name).1:=⟨_,rfl⟩;rw [← hfs] at hRF;have hfl:fs.length≤1000000:=by rw [hfs];exact Jtd F _ h.hF
 obtain ⟨pf,cf,rfl,hcf,_⟩:=id hRF;have g:=g.trans g26;replace E:=E.grow g26;refine AU ?_;refine Vv (fun (i:Nat) u1=>(i≤fs.length∧(fs.drop i).find? (fun f=>decide (f.name=s))=fs.find? (fun f=>decide (f.name=s))∧RowF fldCells u1 fs (.slice pf fs.length cf))∧G w26 u1) [(2,True,_),(6,True,_),(29,True,_),(30,True,_)] (fun (i:Nat)=>[(31,True,.int .i64 i)]) (fun (i:Nat)=>fs.length-i) (0) ⟨⟨Aka _,rfl,hRF⟩,G.refl _⟩ (Za J (Za J (Za J (Za J (Za J (Zr _)))))) ?_;rintro i u1 ⟨hI1,gl1⟩;have g:=g.trans gl1;replace E:=E.grow gl1;clear hRF;obtain ⟨hi,hf,hRF⟩:=hI1;refine IF (fun h2=>?_) fun h2=>?_;replace h2:i<fs.length:=by simp only [Wpg] at h2;omega
 obtain ⟨hpe,hcell⟩:=RowF.opt Xrc hRF h2;rw [Bsa h2] at hf;refine AU ?_;refine Xc J Uha J ?_;intro b12 w12 N12;have l12:=N12.ge g;have l12_gl1:=N12.ge gl1;have hRF0:=hRF;have g:=g.trans N12.g;have gl1:=gl1.trans (N12.g);have hRF:=hRF.grow (N12.g);replace E:=E.new N12;refine AS fun _ ga _ g E=>?_;first|replace gl1:=Yu gl1 ga O|clear gl1|skip
 have hRF:=hRF0.grow (Yu N12.g ga (Nat.le_of_eq N12.at_.symm));refine Ze (kq (Zj (Zl (Xg Xlb J (Xl Yy J (E.g0.at_ J) (Zv J (Wgd J J (Ze (kq (Wz J (fun h3=>?_) (fun h3=>?_)))))))))));replace h3:=Wrg h3;rw [List.find?_cons_of_pos (by simpa using h3)] at hf;refine Zj (Zl (Xg Xmb J (Wm Zm J J (E.g0.row.part 1 2) (AS fun _ ga _ g E=>?_))));first|replace gl1:=Yu gl1 ga O|clear gl1|skip
 refine RTN ?_;have e:fldR F x.ty s=(fs[i].ty,true,true):=by unfold fldR;rw [hk,Wug,← hfs,← hf]
 rw [e];exact ⟨rfl,g⟩;replace h3:=Wsg h3;rw [List.find?_cons_of_neg (by simpa using h3)] at hf;refine AU ?_;refine SK [31,2,6,29,30] ?_;refine Ze (fun a ha=>?_);exact ⟨i+1,ha,⟨⟨h2,hf,hRF⟩,gl1⟩,O⟩;replace h2:fs.length≤i:=by simp only [Wqg] at h2;omega
 rw [Bga h2] at hf;refine AS fun _ ga _ g E=>?_;first|replace gl1:=Yu gl1 ga O|clear gl1|skip
 refine RTN ?_;have e:fldR F x.ty s=(ty0,true,false):=by unfold fldR;rw [hk,Wug,← hfs,← hf];rfl
 rw [e];exact ⟨rfl,g⟩
theorem PC.keepO{F:Nd}{n0 b lo:Nat}{TB X Y:List Nat}{r0:Option (List Ty)}{S:CSt}{w w':Aa}{ks:List Nd}{s:Fa}(h:PC F n0 b TB X r0 S w)(hg:w.grownBy w' s.ownBlock)(hO:OwnN Y lo w ks s)(hj:n0≤lo):PC F n0 b TB X r0 S w' :=
 h.keepr hg fun k hk=>by
 obtain ⟨cs,fr,hc⟩:=hO.nd k hk;exact ⟨Aea hj (hO.ge k hk),cs,_,fr,hc,.inl rfl⟩
theorem Qbf{F t:Nd}{S:CSt}(hs:Sc S)(i:Nat):Vp S (stA (ckY F t) S i).2:=Yvd (fun i=>Qxa F _) hs i
theorem Vsd{F t:Nd}{S:CSt}(hs:Sc S)(hc:CanV S):∀ i,CanV (stA (ckY F t) S i).2
 | 0=>hc
 | i+1=>(Voc F _).st _ ((Qbf hs i).sc hs) (Vsd hs hc i)
theorem Xee{F t:Nd}(S:CSt)(i:Nat):∀ k,Er (stA (ckY F t) S i).2 (stA (ckY F t) S (i+k)).2
 | 0=>Er.refl _
 | k+1=>(Xee S i k).trans ((Uh F (Zb t (i+k))).st _).e
theorem Ume{F t:Nd}(K:∀ i,i<t.kids.length→CxM 1000000 F 87 (Zb t i) (ckT F (Zb t i)).st):CxM 1000001 F 57 t (ckT F t).sts:=by
 intro n0 b TB X r0 S w v N h he hc hkw hb hcn
 have e:(ckT F t).sts S=(annT t (stA (ckY F t) S t.kids.length).1 ty0,(stA (ckY F t) S t.kids.length).2):=by
  rw [Zha];show (annT t (stA (ckX F t) S t.kids.length).1 ty0,(stA (ckX F t) S t.kids.length).2)=_;rw [Jud S _ (Aba _)]
 rw [e];obtain ⟨p,c,rfl,_⟩:=id hkw;have hlt:=h.lt;have hln:=Wn t;have hs:=h.scs;have g:=GT.refl (mutC X) n0 w;refine Vi (m:=27) Tryz.func57 J J [(0,True,_),(1,True,_)] (Za J (Za J (Zr _))) ?_;refine BM fun b3 _ ga _ g E=>?_;have h:=Ui h;refine AN fun b4 _ ga _ g E=>?_;have h:=Ui h;refine AU ?_;refine CL (Jn t _ _ _) ?_;rintro _ _ ⟨rfl,ga⟩;refine RC fun g E=>?_;have h:=Uk h;refine AN fun b5 _ ga _ g E=>?_;have h:=Ui h;refine AS fun _ ga Ca g E=>?_;have h:=h.keep ga Ca O (.inl rfl);refine AU ?_;have hnd1:=E.1;refine Uy (fun (i:Nat) u1=>(i≤t.kids.length∧(stA (ckY F t) S i).2.ee=0∧PC F n0 b TB X r0 (stA (ckY F t) S i).2 u1∧∃ s,Blk u1 b5 26 (ndCells (clnT t) s)∧OwnN [b3,b4,b5] w.heap.size u1 (stA (ckY F t) S i).1 s)∧GT (mutC X) n0 w u1) _ [(0,True,_),(4,True,_),(5,True,_),(11,True,_),(12,True,_)] (fun (i:Nat)=>[(13,True,.int .i64 i)]) (fun (i:Nat)=>t.kids.length-i) (0) ⟨⟨Aka _,he,h,_,E.g0,Ypa _ _ _⟩,g⟩ (Yb (blkE E.g2) (Yb (blkE E.g1) (Wd _))) (Za J (Za J (Za J (Za J (Za J (Za J (Zr _))))))) ?_;clear E;rintro i u1 ⟨hI1,gl1⟩ ⟨B3,B4,_⟩;replace B3:Blk _ _ _ _:=B3;replace B4:Blk _ _ _ _:=B4;have g:=gl1;obtain ⟨hi,hei,h,s,B5,hO⟩:=hI1;obtain ⟨sa,sc,rfl⟩:=hO.slice;have hk0:=hkw.gt gl1 (fun k h=>h);have E:=Vma (L:=[(b5,_,_),(b4,_,_),(b3,_,_)]) hnd1 ⟨B5,B4,B3,trivial⟩ rfl;refine IF (fun h1=>?_) fun h1=>?_;replace h1:i<t.kids.length:=by simp only [Wpg] at h1;omega
 obtain ⟨e0,p1,c1,hcell,hkid⟩:=Yq hk0 (i:=i) h1;have hDp:pb p<n0:=Vu hk0 h1;have hq:CxM 1000000 F 87 (Zb t i) (ckT F (Zb t i)).st:=K i h1;have hst:=Zwf (F:=F) S i hi;have hbd:=hst.bd _ hb;have hsc:=Vsa t (i+1);have hcN:=Xra h1;have hsc1:sC t (i+1)=sC t i+cN t i:=rfl;have hOlt:=hO.lt;have hlen:=Yze (ckY F t) S i;refine AN fun b7 _ ga _ g E=>?_;have hO:=Uj hO;have h:=Ui h;have hkid:=Ui hkid;refine AS fun _ ga Ca g E=>?_;have h:=h.keep ga Ca O (.inl rfl);have hO:=Ua hO;have hkid:=Ud hkid;have hOlt:=hO.lt;refine AU ?_;refine Xh (gtC X n0) [3,0,3,0,1,1,2,3,2] [0,1,0,0,12,28,63,127,255] mix KR [0,1,2,3,4,5,6,7,8] J ?_;have g:=gtd g;replace E:=E.dr;have h:=h.grow (G.drew _);have hO:=hO.grow (G.drew _);have hkid:=hkid.grow (G.drew _);refine Zx 0 J J (fun _=>Zi Zh (Zd J)) (Yi 1 J J (fun w1 hx=>Zq Zg (Zd J) (fun _=>(E.g1.gt hx J).at_ J)) (Zx 2 J J (fun _=>Zw (Zd J)) (Yi 3 J J (fun w1 hx=>Zo Zf (Zd J) J (fun _=>(E.g0.gt hx J).row)) (Zt 4 J J ?_))));refine Zn (L':=[5,6,7,8]) [3,0,3,0,2,1,2,3,2] J J J ?_;refine Y2 J Qm J J (CxM.to hq [b3,b4,b5,b7] h hei (Vsd hs hc i) hkid hbd O (E.ltm Ob) g.size) ((fun ch w' hz=>Bad.pass hz (by have:=Xee (F:=F) (t:=t) S (i+1) (t.kids.length-(i+1));rwa [show i+1+(t.kids.length-(i+1))=t.kids.length by omega] at this) (by rw [hst.scope];exact Aba _) g)) ?_;rintro v21 w21 ⟨⟨p21,c21,rfl,q21,k21⟩,he21,h,g21⟩;refine ⟨nw1,?_⟩;have g:=gtw g g21;replace E:=E.gtx g21;have hO:=hO.gt g21 rfl;refine Zy (g21) ?_;refine Zt 5 J J ?_;refine Zn (L':=[6,7,8]) [3,0,3,0,2,1,2,3,2] J J J ?_;refine CN fun _ _ N22 _ g E=>?_;have k21:=k21.new N22
 have hO:=hO.new N22;have h:=h.grow (N22.g);refine Zy (GT.of_g (N22.g)) ?_;refine Zt 6 J J ?_;refine Xb (L':=[7,8]) [3,0,3,0,2,1,2,3,2] J J J J ?_;have hO:=hO.sub (Y:=[b3,b4,b5]) Oj;have hOo:=hO;refine Wca J Zc Zs J (Zd J) hO (Zd J) J E.g0.row (Vt k21 q21 Oj (fun j hj=>.inr (hOlt j hj))) (by simp;omega) (by have:=g.size;omega) ⟨by have:=g.size;omega,by have q3:=E.g4.lt;have q4:=E.g3.lt;have q5:=E.g2.lt;simp;omega⟩ ?_;intro a23 c23 w23 hO hg23;replace E:=E.sel [false,false,true,true,true];replace E:=E.keepX hg23 hOo.ne Ob;have g:=Ve g hg23 (fun k hk=>hOo.ge k hk);have h:=h.keepO hg23 hOo O;refine Xx ?_;refine Zx 7 J J (fun _=>Zi Zh (Zd J)) (Zt 8 J J ?_);refine Xb (L':=[]) [3,0,3,0,2,1,2,3,2] J J J J ?_;refine AS fun _ ga Ca g E=>?_;have h:=h.keep ga Ca O (.inl rfl);have hO:=Ua hO;refine Xx ?_;refine TK [0,4,5,11,12,13] ?_;refine AU ?_;refine SK [13,0,4,5,11,12] ?_;refine Ze (fun a ha=>?_);exact ⟨i+1,ha,⟨⟨h1,he21,h,_,E.g0,hO.sub Oj⟩,g⟩,(Yb (blkE E.g2) (Yb (blkE E.g1) (Wd _))),O⟩;replace h1:i=t.kids.length:=by simp only [Wqg] at h1;omega
 subst h1;refine AS fun _ ga Ca g E=>?_;have h:=h.keep ga Ca O (.inl rfl);have hO:=Ua hO;refine RTN ?_;exact ⟨hei,Xp (t:=annT t _ ty0) rfl (hO.sub (Y:=[b3,b4,b5]) Oj).kd,h,g⟩
def GoodT(y:Ty):Prop:=Ux y = !decide (8≤y.kind)
structure FW (F:Nd):Prop where
  res:FRes F
  glb:∀ s,0≤(findD F 6 s).2→GoodT (ofF (Zb (findD F 6 s).1 0)).1
  fld:∀ s,∀ f∈(Ut F s).1,GoodT f.ty
  one:∀ s,0≤(findD F 6 s).2→(findD F 4 s).2<0
def synS(F t:Nd)(S:CSt):CSt:=bif decide (t.kind=28) then ((ckT F (Zb t 0)).ex S).2 else S
theorem Ypg{F t:Nd}{x:Nat→Ck}{S:CSt}(HF:FW F)(hk:t.kind=27):(rcvR F t x S).2=((glbR F S t.text).2 && !Ux (glbR F S t.text).1)∧(rcvR F t x S).1=(lookR F S t).1∧((rcvR F t x S).2=true→(lookR F S t).2=true):=by
 have e:rcvR F t x S=((lookR F S t).1,((lookR F S t).2&&decide ((lookR F S t).1.ref=2))&&decide (8≤(lookR F S t).1.ty.kind)):=by unfold rcvR;rw [Wng hk];rfl
 rw [e];refine ⟨?_,rfl,fun h=>by simp only [Aaa] at h;exact h.1.1⟩;unfold glbR
 cases hv:findV S.vars t.text with
 | some v=>rw [Ylc hv];rfl
 | none =>
  cases hg:(glbF F t.text).2;rw [Jqb hv hg];show _=((glbF F t.text).2&&_);rw [hg,Ala];cases fncB F t.text <;> rfl
  rw [Ymc hv hg];show ((true&&true)&&decide (8≤(glbF F t.text).1.kind))=((glbF F t.text).2 && !Ux (glbF F t.text).1)
  have hq:0≤(findD F 6 t.text).2:=by
   cases hq:decide (0≤(findD F 6 t.text).2);unfold glbF at hg;rw [hq] at hg;cases hg;exact Wrg hq
  have ht:(glbF F t.text).1=(ofF (Zb (findD F 6 t.text).1 0)).1:=by unfold glbF;rw [Wng hq];rfl
  have:=HF.glb _ hq;rw [hg,ht,this];simp
theorem Yqg{F t:Nd}{x:Nat→Ck}{S:CSt}(HF:FW F)(hk:t.kind=28)(he:((x 0).ex S).2.ee=0):(rcvR F t x S).2=((fldR F ((x 0).ex S).1.ty t.text).2.2 && !Ux (fldR F ((x 0).ex S).1.ty t.text).1)∧((rcvR F t x S).2=true→(rcvR F t x S).1=annT t [((x 0).ex S).1] (fldR F ((x 0).ex S).1.ty t.text).1):=by
 have e:rcvR F t x S=((memR F t x S).1.1,((memR F t x S).1.2&&decide ((memR F t x S).2.ee=0))&&decide (8≤(memR F t x S).1.1.ty.kind)):=by unfold rcvR;rw [Wmg O,Wng hk];rfl
 rw [e];cases hq:decide (((x 0).ex S).1.ty.kind=4);have em:memR F t x S=((annT t [((x 0).ex S).1] ty0,false),failS t.pos 7 ((x 0).ex S).2):=by unfold memR;dsimp only;rw [hq];rfl
 have ef:fldR F ((x 0).ex S).1.ty t.text=(ty0,false,false):=by unfold fldR;rw [hq];rfl
 rw [em,ef];exact ⟨rfl,fun h=>by cases h⟩
 cases hf:(Ut F ((x 0).ex S).1.ty.name).1.find? fun f=>decide (f.name=t.text) with
 | none =>
  have em:memR F t x S=((annT t [((x 0).ex S).1] ty0,false),failS t.pos 5 ((x 0).ex S).2):=by unfold memR;dsimp only;rw [hq,Wug,hf]
  have ef:fldR F ((x 0).ex S).1.ty t.text=(ty0,true,false):=by unfold fldR;rw [hq,Wug,hf]
  rw [em,ef];exact ⟨rfl,fun h=>by cases h⟩
 | some f =>
  have em:memR F t x S=((annT t [((x 0).ex S).1] f.ty,true),((x 0).ex S).2):=by unfold memR;dsimp only;rw [hq,Wug,hf]
  have ef:fldR F ((x 0).ex S).1.ty t.text=(f.ty,true,true):=by unfold fldR;rw [hq,Wug,hf]
  have:=HF.fld _ f (Bua hf);rw [em,ef];refine ⟨?_,fun _=>rfl⟩;show ((true&&decide (((x 0).ex S).2.ee=0))&&decide (8≤f.ty.kind))=(true && !Ux f.ty);rw [Wng he,this];simp
theorem Yoc(F:Nd)(S:CSt)(t:Nd):(lookR F S t).1.kids=[]:=by
 unfold lookR
 cases findV S.vars t.text with
 | some v=>rfl
 | none =>
  dsimp only;cases decide (0≤(findD F 6 t.text).2);cases decide (0≤(findD F 4 t.text).2) <;> rfl
  rfl
theorem Yhf{F t:Nd}(HF:FW F)(HX:t.kind=28→0<t.kids.length∧CxM 1000000 F 113 (Zb t 0) (ckT F (Zb t 0)).ex){n0 b:Nat}{TB X:List Nat}{r0:List Ty}{S:CSt}{w:Aa}{v:Fa}{N:Nat}(h:PC F n0 b TB X (some r0) S w)(he:S.ee=0)(hc:CanV S)(hk0:Kd w (fun k=>k<n0) t.kids v)(hb:Bd S N)(hn:N+count t≤1000000) :
 RetP PP 169 #[.pointer (some ⟨b,0,none⟩),ndV t v] w (fun r w'=>(∃ x m z c,r = .tuple #[ndV x (.slice m z c),.bool ((ckT F t).rcv S).2]∧(((ckT F t).rcv S).2=true→x=((ckT F t).rcv S).1∧RetN x w.heap.size (ndV x (.slice m z c)) w'))∧(synS F t S).ee=0∧PC F n0 b TB X (some r0) (synS F t S) w'∧GT (mutC X) n0 w w') (Bad n0 b X (S.scope+1) (synS F t S) w):=by
 obtain ⟨p,c,rfl,_⟩:=id hk0;have hlt:=h.lt;have htb:=h.tb;have hs:=h.scs;have htb2:∀ j∈TB,j<w.heap.size:=fun j hj=>htb.2 j (htb.1 j hj);have er:(ckT F t).rcv S=rcvR F t (ckX F t) S:=by rw [Zha];rfl
 rw [er];have g:=GT.refl (mutC X) n0 w;refine Vi (m:=65) Tryz.func169 J J [(0,True,_),(1,True,_)] (Za J (Za J (Zr _))) ?_;refine BM fun b3 _ ga _ g E=>?_;have hp3:=h;have h:=Ui h;have hk0:=Ui hk0;refine AN fun b4 _ ga _ g E=>?_;have hp4:=h;have h:=Ui h;have hk0:=Ui hk0;refine IF (fun h1=>?_) fun h1=>?_;replace h1:t.kind=27:=Wrg h1;obtain ⟨r1,r2,r3⟩:=Ypg (x:=ckX F t) (S:=S) HF h1;have es:synS F t S=S:=by unfold synS;rw [Wmg O];rfl
 have hnum:numS t=0:=by unfold numS Wvb;rw [Wmg O,Wmg O];rfl
 refine AU ?_;refine CL (Zbe h hb O t.text) ?_;rintro _ _ ⟨rfl,ga⟩;refine RC fun g E=>?_;have h:=Uk h;refine AN fun _ _ N6 _ g E=>?_;have hp6:=h;have h:=h.grow (N6.g);have h:=hp6.addX N6;refine AS fun _ ga Ca g E=>?_;first|have h:=h.keep ga Ca O (.inl rfl)|have h:=h.keep ga Ca O (.inr ⟨by simp,fun hm=>by have:=htb2 _ hm;omega⟩)
 refine AU ?_;refine CG (fun hc=>Xza (glbR F S t.text).1 _ h.laid.hL h.laid.hb) (fun w27 g27=>?_);have g:=gtg g g27;replace E:=E.grow g27;have h:=h.grow (g27);refine IF (fun h2=>?_) fun h2=>?_;have hl:=r3 (r1.trans h2);refine AU ?_;refine Y2 J Jr J J (Ync t _ _ h hb O HF.res hnum) ((fun ch w' hz=>by rw [hl] at hz;exact Baa hz.1)) ?_;rintro _ _ ⟨_,rfl,ga⟩;refine RC fun g E=>?_;have h:=Uk h;refine AS fun _ ga Ca g E=>?_;first|have h:=h.keep ga Ca O (.inl rfl)|have h:=h.keep ga Ca O (.inr ⟨by simp,fun hm=>by have:=htb2 _ hm;omega⟩)
 refine RTN ?_;rw [es];refine ⟨⟨(lookR F S t).1,none,0,0,by rw [r1,h2],fun _=>⟨r2.symm,?_⟩⟩,he,h.sub htb.1 (by intro j hj;simp [hj]),g⟩;exact Ygc _ _ _ (Yoc F S t);refine AS fun _ ga Ca g E=>?_;first|have h:=h.keep ga Ca O (.inl rfl)|have h:=h.keep ga Ca O (.inr ⟨by simp,fun hm=>by have:=htb2 _ hm;omega⟩)
 refine RTN ?_;rw [es];exact ⟨⟨nd0,none,0,0,by rw [r1,h2];rfl,fun q=>by rw [r1,h2] at q;cases q⟩,he,h.sub htb.1 (by intro j hj;simp [hj]),g⟩;replace h1:t.kind≠27:=Wsg h1;refine IF (fun h3=>?_) fun h3=>?_;replace h3:t.kind=28:=Wrg h3;obtain ⟨hl0,HX⟩:=HX h3;have es:synS F t S=((ckT F (Zb t 0)).ex S).2:=by unfold synS;rw [Wng h3];rfl
 have hx0:ckX F t 0=ckT F (Zb t 0):=Wl hl0;obtain ⟨e0,p1,c1,hcell,hkid⟩:=Yq hk0 (i:=0) hl0;have hcN:=Xra hl0;have hsc1:=Vsa t 1;have hsc0:sC t 1=0+cN t 0:=rfl;refine AU ?_;refine Y2 J Xt J J (CxM.to HX [b3,b4] h he hc hkid hb O (E.ltm Ob) g.size) ((fun ch w' hz=>Bad.pass hz (by rw [es];exact Er.refl _) (Aba _) g)) ?_;rintro v40 w40 ⟨⟨p40,c40,rfl,q40,k40⟩,he1,h,g40⟩;refine ⟨nw1,?_⟩;have g:=gtw g g40;replace E:=E.gtx g40;obtain ⟨r1,r2⟩:=Yqg (x:=ckX F t) (S:=S) HF h3 (by rw [hx0];exact he1);rw [hx0] at r1 r2;refine AN fun _ _ ga _ g E=>?_;have hp8:=h;have k40:=Uj k40;have h:=Ui h;refine AS fun _ ga Ca g E=>?_;first|have h:=h.keep ga Ca O (.inl rfl)|have h:=h.keep ga Ca O (.inr ⟨by simp,fun hm=>by have:=htb2 _ hm;omega⟩)
 have k40:=k40.keep ga Oi;refine AU ?_;refine CL (Jmc ((ckT F (Zb t 0)).ex S).1 _ t.text h) ?_;rintro _ _ ⟨rfl,ga⟩;refine RC fun g E=>?_;have h:=Uk h;have k40:=Uk k40;refine AN fun _ _ N9 _ g E=>?_;have hp9:=h;have k40:=k40.new N9;have h:=h.grow (N9.g);have h:=hp9.addX N9;refine AS fun _ ga Ca g E=>?_;first|have h:=h.keep ga Ca O (.inl rfl)|have h:=h.keep ga Ca O (.inr ⟨by simp,fun hm=>by have:=htb2 _ hm;omega⟩)
 have k40:=k40.keep ga Oi;refine AU ?_;refine CG (fun hc=>Xza (fldR F ((ckT F (Zb t 0)).ex S).1.ty t.text).1 _ h.laid.hL h.laid.hb) (fun w53 g53=>?_);have g:=gtg g g53;replace E:=E.grow g53;have h:=h.grow (g53);have k40:=k40.grow (g53);refine IF (fun h4=>?_) fun h4=>?_;(try simp only [bsimp] at h4);refine AU ?_;refine CL (Jn t _ _ _) ?_;rintro _ _ ⟨rfl,ga⟩;refine RC fun g E=>?_;have h:=Uk h;have k40:=Uk k40;refine AN fun b12 _ ga _ g E=>?_;have hp12:=h;have k40:=Uj k40;have h:=Ui h;refine AS fun _ ga Ca g E=>?_;first|have h:=h.keep ga Ca O (.inl rfl)|have h:=h.keep ga Ca O (.inr ⟨by simp,fun hm=>by have:=htb2 _ hm;omega⟩)
 have k40:=k40.keep ga Oi;refine AU ?_;refine Xh (rowR (some b12)) [0,1,0,3,1,3,1] [0,1,0,3,11,31,63] mix KR [0,1,2,3,4,5,6] J ?_;have g:=gtd g;replace E:=E.dr;have h:=h.grow (G.drew _);have k40:=k40.grow (G.drew _);refine Yi 0 J J (fun w1 hx=>Zo Zf (Zd J) J (fun _=>(E.g2.keep hx (fun h=>E.ne 2 0 J J J (Option.some.inj h))).row)) (Yi 2 J J (fun w1 hx=>Zo Zm (Zd J) J (fun _=>(E.g1.keep hx (fun h=>E.ne 1 0 J J J (Option.some.inj h))).row)) (Zt 1 J J ?_));refine Zn (L':=[3,4,5,6]) [0,1,0,3,2,3,2] J J J ?_;refine CN fun _ _ N59 l59 g E=>?_;have hp59:=h;have k40:=k40.new N59;have h:=h.grow (N59.g);refine Zy ((N59.g).only _) ?_;refine Zx 3 J J (fun _=>Zi Zh (Zd J)) (Zt 4 J J ?_);refine Zn (L':=[5,6]) [0,1,0,3,2,3,2] J J J ?_;refine AS fun _ hgS7 Ca g E=>?_;first|have h:=h.keep hgS7 Ca O (.inl rfl)|have h:=h.keep hgS7 Ca O (.inr ⟨by simp,fun hm=>by have:=htb2 _ hm;omega⟩)
 have k40:=k40.keep hgS7 Oi;refine Zy (hgS7) ?_;refine Zx 5 J J (fun _=>Zi Yk (Zd J)) (Zt 6 J J ?_);refine Zn (L':=[]) [0,1,0,3,2,3,2] J J J ?_;refine Xn J Xv (Zd J) (Zd J) J J E.g1 J J ?_;intro wS8 hgS8 _ BS;have C12:=E.g1;replace E:=E.s1 hgS8 BS;have g:=Yd g hgS8 O;first|have h:=h.keep hgS8 C12 O (.inl rfl)|have h:=h.keep hgS8 C12 O (.inr ⟨by simp,fun hm=>by have:=htb2 _ hm;omega⟩)
 have k40:=k40.keep hgS8 Oi;refine Zy (hgS8) ?_;refine TK [4,5,12] ?_;refine AS fun _ ga Ca g E=>?_;first|have h:=h.keep ga Ca O (.inl rfl)|have h:=h.keep ga Ca O (.inr ⟨by simp,fun hm=>by have:=htb2 _ hm;omega⟩)
 have k40:=k40.keep ga Oi;refine RTN ?_;rw [es];refine ⟨⟨annT t [_] _,_,_,_,by rw [r1,h4];rfl,fun q=>⟨(r2 q).symm,?_⟩⟩,he1,h.sub htb.1 (by intro j hj;simp [hj]),g⟩;exact Xp (t:=annT t [_] _) rfl (Zga (ks:=[_]) ⟨l59,Jl E.g0⟩ E.g0.row (Vd (k40.kdN q40)) (Aba _));refine AS fun _ ga Ca g E=>?_;first|have h:=h.keep ga Ca O (.inl rfl)|have h:=h.keep ga Ca O (.inr ⟨by simp,fun hm=>by have:=htb2 _ hm;omega⟩)
 refine RTN ?_;rw [es];exact ⟨⟨nd0,none,0,0,by rw [r1,h4];rfl,fun q=>by rw [r1,h4] at q;cases q⟩,he1,h.sub htb.1 (by intro j hj;simp [hj]),g⟩;replace h3:t.kind≠28:=Wsg h3;have es:synS F t S=S:=by unfold synS;rw [Wmg h3];rfl
 have r0:rcvR F t (ckX F t) S=(nd0,false):=by unfold rcvR;rw [Wmg h1,Wmg h3];rfl
 refine AS fun _ ga Ca g E=>?_;first|have h:=h.keep ga Ca O (.inl rfl)|have h:=h.keep ga Ca O (.inr ⟨by simp,fun hm=>by have:=htb2 _ hm;omega⟩)
 refine RTN ?_;rw [es,r0];exact ⟨⟨nd0,none,0,0,rfl,fun q=>by cases q⟩,he,h.sub htb.1 (by intro j hj;simp [hj]),g⟩
theorem PC.back{F:Nd}{n0 b:Nat}{TB X:List Nat}{r0:Option (List Ty)}{S T:CSt}{w:Aa}(h:PC F n0 b TB X r0 T w)(V:Vs S T)(q:Nq S T)(hr:T.result=S.result):PC F n0 b TB X r0 S w:=by
 obtain ⟨fv,ms,mg,mn,mf,pv,sv,cv,rv,vs,sc,h⟩:=h
 have e:T.next.take (S.level+1)=S.next.take (S.level+1):=by
  apply List.ext_getElem?;intro i;rw [Aqa,Aqa];by_cases hi:i<S.level+1;rw [if_pos hi,if_pos hi];exact q.nx i O;rw [if_neg hi,if_neg hi]
 have co:=h.co;have ro:=h.ro;rw [q.lv,e] at co;rw [hr] at ro;exact ⟨fv,ms,mg,mn,mf,pv,sv,cv,rv,vs,sc,h.B,h.hb,h.kF,h.hF,h.T,h.L,h.so,h.sr,h.fl.trans V.vars,h.sl.trans (by rw [V.scope]),h.ss,co,ro,(fun l e=>(h.rl l e).trans q.lv),h.tx,h.xl,h.bx,h.sx,h.vx,h.cx,h.rx,h.sz⟩
theorem Ykb(F t:Nd)(S:CSt):(ckT F t).ex S=exR F t (ckX F t) S:=by rw [Zha];rfl
theorem Yrg(F t:Nd)(S:CSt):(ckT F t).mem S=memR F t (ckX F t) S:=by rw [Zha];rfl
theorem Ysg(F t:Nd)(S:CSt):(ckT F t).rcv S=rcvR F t (ckX F t) S:=by rw [Zha];rfl
theorem Ubc(F t:Nd)(S:CSt):(ckT F t).cal S=calR F t (ckX F t) S:=by rw [Zha];rfl
theorem Zee{F t:Nd}(S:CSt)(hk:t.kind=28):exR F t (ckX F t) S=((memR F t (ckX F t) S).1.1,failU (!((memR F t (ckX F t) S).1.2 && !Ux (memR F t (ckX F t) S).1.1.ty)) t.pos 7 (memR F t (ckX F t) S).2):=by
 unfold exR;rw [Wmg O,Wmg O,Wmg O,Wmg O,Wmg O,Wmg O,Wng hk];rfl
theorem Jwf{F t:Nd}{S:CSt}(hl:0<t.kids.length)(hl2:(Zb t 0).kind=28→0<(Zb t 0).kids.length)(h:((ckT F (Zb t 0)).rcv S).2=true):rcvX t (ckX F t) S=(((ckT F (Zb t 0)).rcv S).1,synS F (Zb t 0) S):=by
 unfold rcvX synS;rw [Wl hl];cases hk:decide ((Zb t 0).kind=28);rfl;have hk':=Wrg hk;rw [Ysg] at h ⊢;rw [Yrg,Wug,Wug];unfold rcvR at h ⊢;rw [Wmg (by omega:¬ (Zb t 0).kind=27),hk,Wtg,Wug] at h ⊢
 have h1:(memR F (Zb t 0) (ckX F (Zb t 0)) S).1.2=true:=by
  simp only [Aaa] at h;exact h.1.1
 have h2:(memR F (Zb t 0) (ckX F (Zb t 0)) S).2=((ckX F (Zb t 0) 0).ex S).2:=by
  unfold memR at h1 ⊢;dsimp only at h1 ⊢;cases hq:decide (((ckX F (Zb t 0) 0).ex S).1.ty.kind=4);rw [hq] at h1;cases h1;rw [hq,Wug] at h1
  cases hf:(Ut F ((ckX F (Zb t 0) 0).ex S).1.ty.name).1.find? fun f=>decide (f.name=(Zb t 0).text) with
  | none=>rw [hf] at h1;cases h1
  | some f=>rfl
 rw [h2,Wl (hl2 hk')]
theorem PC.addF{F:Nd}{n0 b:Nat}{TB X:List Nat}{r0:Option (List Ty)}{S:CSt}{w w':Aa}(h:PC F n0 b TB X r0 S w)(g:G w w'){Y:List Nat}(hY:∀ j∈Y,w.heap.size≤j∧j<w'.heap.size):PC F n0 b TB (Y++X) r0 S w':=by
 obtain ⟨fv,ms,mg,mn,mf,pv,sv,cv,rv,vs,sc,h⟩:=h;refine ⟨fv,ms,mg,mn,mf,pv,sv,cv,rv,vs,sc,?_⟩;have k:=h.grow g
 have hj:∀ {i:Nat},i<w.heap.size→i∉X→i∉Y++X:=fun hi hx hm=>by
  rcases Bea.1 hm with q|q;have:=hY _ q;omega;exact hx q
 exact ⟨k.B,k.hb,k.kF,k.hF,k.T,k.L,k.so,k.sr,k.fl,k.sl,k.ss,k.co,k.ro,k.rl,fun i hi=>List.mem_append_right _ (k.tx i hi),fun i hi=>by
  rcases Bea.1 hi with q|q;exact (hY _ q).2;exact k.xl i q,hj h.B.lt h.bx,fun i hi=>hj (h.so.lt i hi).2 (h.sx i hi),fun i v hv q hq=>hj (h.sr.lt hv q hq).2 (h.vx i v hv q hq),fun i hi=>hj (h.co.lt i hi).2 (h.cx i hi),fun i hi=>hj (h.ro.lt i hi).2 (h.rx i hi),h.sz⟩
theorem RowM.wide{TB Z:List Nat}{w:Aa}{l:List Ty}{v:Fa}(h:RowM TB w l v)(hz:∀ j∈TB,j∈Z):RowM Z w l v:=by
 obtain ⟨p,c,e,h⟩:=h;exact ⟨p,c,e,fun h0=>by obtain ⟨b,o,cs,fr,e,hb,h1⟩:=h h0;exact ⟨b,o,cs,fr,e,hz _ hb,h1⟩⟩
theorem Yif(y:Ty)(s:List UInt8)(w:Aa)(hL:Laid w)(hb3:10≤w.heap.size):Ret PP 170 #[tyV y,Str s] w fun v w'=>MthT w.heap.size (mthF y s) v w'∧G w w':=by
 have g:=G.refl w;refine WK 86 [0,1] Tryz.func170 ?_;refine BM fun _ _ _ _ g E=>?_;refine AN fun _ _ _ _ g E=>?_;refine AN fun _ _ _ _ g E=>?_;refine AU ?_;refine CP (Zxc _ _ (hL.grow g) (by have:=g.size;omega)) (fun w10 g10=>?_);have g:=g.trans g10;replace E:=E.grow g10;refine IF (fun h1=>?_) fun h1=>?_;(try simp only [bsimp] at h1);refine AU ?_;refine Xs [0,3,2,3] [true,true,true,true] [0,0,3,7] mix KR ?_;have g:=gdr g;replace E:=E.dr;refine AS fun _ _ _ g E=>?_;refine RTN ?_;refine ⟨?_,g⟩;unfold mthF;simp only [Qja,h1,Wug,Wtg]
 first
 | exact ⟨_,rfl,Jm⟩
 | exact ⟨_,rfl,Ww (l:=[_]) (by first|assumption|exact E.g 0 rfl) rfl (by first|assumption|omega)⟩
 | exact ⟨_,rfl,Ww (l:=[_,_]) (by first|assumption|exact E.g 0 rfl) rfl (by first|assumption|omega)⟩
 refine AN fun _ _ _ _ g E=>?_;refine AS fun _ _ _ g E=>?_;refine IF (fun h2=>?_) fun h2=>?_;(try simp only [bsimp] at h2);refine AU ?_;refine Xs [0,3,3,3,3,3,3,3,2,3] [true,true,true,true,true,true,true,true,true,true] [0,0,2,6,14,30,62,14,143,511] mix KR ?_;have g:=gdr g;replace E:=E.dr;refine AS fun _ _ _ g E=>?_;refine RTN ?_;refine ⟨?_,g⟩;unfold mthF;simp only [Qja,h1,h2,Wug,Wtg]
 first
 | exact ⟨_,rfl,Jm⟩
 | exact ⟨_,rfl,Ww (l:=[_]) (by first|assumption|exact E.g 0 rfl) rfl (by first|assumption|omega)⟩
 | exact ⟨_,rfl,Ww (l:=[_,_]) (by first|assumption|exact E.g 0 rfl) rfl (by first|assumption|omega)⟩
 refine IF (fun h3=>?_) fun h3=>?_;(try simp only [bsimp] at h3);refine AU ?_;refine Xs [0,3,3,3,3,3,3,3,3,3,3,3,3,3,3,3,2,3] [true,true,true,true,true,true,true,true,true,true,true,true,true,true,true,true,true,true] [0,0,2,6,14,30,62,126,254,510,1022,2046,4094,8190,16382,4094,36863,131071] mix KR ?_;have g:=gdr g;replace E:=E.dr;refine AS fun _ _ _ g E=>?_;refine RTN ?_;refine ⟨?_,g⟩;unfold mthF;simp only [Qja,h1,h2,h3,Wug,Wtg]
 first
 | exact ⟨_,rfl,Jm⟩
 | exact ⟨_,rfl,Ww (l:=[_]) (by first|assumption|exact E.g 0 rfl) rfl (by first|assumption|omega)⟩
 | exact ⟨_,rfl,Ww (l:=[_,_]) (by first|assumption|exact E.g 0 rfl) rfl (by first|assumption|omega)⟩
 refine IF (fun h4=>?_) fun h4=>?_;(try simp only [bsimp] at h4);refine IF (fun h5=>?_) fun h5=>?_;(try simp only [bsimp] at h5);refine AU ?_;skip;refine Xs [0,1,0,3,2,3] [true,true,false,true,true,true] [0,1,0,3,15,31] mix KR ?_;have g:=gdr g;replace E:=E.dr;have EC:=E;refine CN fun _ _ _ _ g E=>?_;refine Zfc J (Zo Zm (Zd J) J (fun _=>EC.g1.row)) ?_;refine AS fun _ _ _ g E=>?_;refine RTN ?_;refine ⟨?_,g⟩;unfold mthF;simp only [Qja,h1,h2,h3,h4,h5,Wug,Wtg]
 first
 | exact ⟨_,rfl,Jm⟩
 | exact ⟨_,rfl,Ww (l:=[_]) (by first|assumption|exact E.g 0 rfl) rfl (by first|assumption|omega)⟩
 | exact ⟨_,rfl,Ww (l:=[_,_]) (by first|assumption|exact E.g 0 rfl) rfl (by first|assumption|omega)⟩
 refine AU ?_;refine Xs [0,3,3,3,3,3,3,3,2,3] [true,true,true,true,true,true,true,true,true,true] [0,0,2,6,14,30,62,14,143,511] mix KR ?_;have g:=gdr g;replace E:=E.dr;refine AS fun _ _ _ g E=>?_;refine RTN ?_;refine ⟨?_,g⟩;unfold mthF;simp only [Qja,h1,h2,h3,h4,h5,Wug,Wtg]
 first
 | exact ⟨_,rfl,Jm⟩
 | exact ⟨_,rfl,Ww (l:=[_]) (by first|assumption|exact E.g 0 rfl) rfl (by first|assumption|omega)⟩
 | exact ⟨_,rfl,Ww (l:=[_,_]) (by first|assumption|exact E.g 0 rfl) rfl (by first|assumption|omega)⟩
 refine IF (fun h6=>?_) fun h6=>?_;(try simp only [bsimp] at h6);refine IF (fun h7=>?_) fun h7=>?_;(try simp only [bsimp] at h7);refine AU ?_;skip;refine Xs [3,1,0,3,2,3] [true,true,false,true,true,true] [0,1,0,3,15,31] mix KR ?_;have g:=gdr g;replace E:=E.dr;have EC:=E;refine CN fun _ _ _ _ g E=>?_;refine Zfc J (Zo Zm (Zd J) J (fun _=>EC.g1.row)) ?_;refine AS fun _ _ _ g E=>?_;refine RTN ?_;refine ⟨?_,g⟩;unfold mthF;simp only [Qja,h1,h2,h3,h4,h6,h7,Wug,Wtg]
 first
 | exact ⟨_,rfl,Jm⟩
 | exact ⟨_,rfl,Ww (l:=[_]) (by first|assumption|exact E.g 0 rfl) rfl (by first|assumption|omega)⟩
 | exact ⟨_,rfl,Ww (l:=[_,_]) (by first|assumption|exact E.g 0 rfl) rfl (by first|assumption|omega)⟩
 refine AU ?_;refine Xs [0,3,2,3] [true,true,true,true] [0,0,3,7] mix KR ?_;have g:=gdr g;replace E:=E.dr;refine AS fun _ _ _ g E=>?_;refine RTN ?_;refine ⟨?_,g⟩;unfold mthF;simp only [Qja,h1,h2,h3,h4,h6,h7,Wug,Wtg]
 first
 | exact ⟨_,rfl,Jm⟩
 | exact ⟨_,rfl,Ww (l:=[_]) (by first|assumption|exact E.g 0 rfl) rfl (by first|assumption|omega)⟩
 | exact ⟨_,rfl,Ww (l:=[_,_]) (by first|assumption|exact E.g 0 rfl) rfl (by first|assumption|omega)⟩
 refine IF (fun h8=>?_) fun h8=>?_;(try simp only [bsimp] at h8);refine IF (fun h9=>?_) fun h9=>?_;(try simp only [bsimp] at h9);refine AU ?_;refine Xs [0,3,2,3] [true,true,true,true] [0,0,3,7] mix KR ?_;have g:=gdr g;replace E:=E.dr;refine AS fun _ _ _ g E=>?_;refine RTN ?_;refine ⟨?_,g⟩;unfold mthF;simp only [Qja,h1,h2,h3,h4,h6,h8,h9,Wug,Wtg]
 first
 | exact ⟨_,rfl,Jm⟩
 | exact ⟨_,rfl,Ww (l:=[_]) (by first|assumption|exact E.g 0 rfl) rfl (by first|assumption|omega)⟩
 | exact ⟨_,rfl,Ww (l:=[_,_]) (by first|assumption|exact E.g 0 rfl) rfl (by first|assumption|omega)⟩
 refine IF (fun h10=>?_) fun h10=>?_;(try simp only [bsimp] at h10);refine AU ?_;skip;refine Xs [0,1,0,3,2,3] [true,true,false,true,true,true] [0,1,0,3,15,31] mix KR ?_;have g:=gdr g;replace E:=E.dr;have EC:=E;refine CN fun _ _ _ _ g E=>?_;refine Zfc J (Zo Zm (Zd J) J (fun _=>EC.g1.row)) ?_;refine AS fun _ _ _ g E=>?_;refine RTN ?_;refine ⟨?_,g⟩;unfold mthF;simp only [Qja,h1,h2,h3,h4,h6,h8,h9,h10,Wug,Wtg]
 first
 | exact ⟨_,rfl,Jm⟩
 | exact ⟨_,rfl,Ww (l:=[_]) (by first|assumption|exact E.g 0 rfl) rfl (by first|assumption|omega)⟩
 | exact ⟨_,rfl,Ww (l:=[_,_]) (by first|assumption|exact E.g 0 rfl) rfl (by first|assumption|omega)⟩
 refine IF (fun h11=>?_) fun h11=>?_;(try simp only [bsimp] at h11);refine AU ?_;skip;refine Xs [0,1,0,3,2,3] [true,true,false,true,true,true] [0,1,0,3,15,31] mix KR ?_;have g:=gdr g;replace E:=E.dr;have EC:=E;refine CN fun _ _ _ _ g E=>?_;refine Zfc J (Zo Zm (Zd J) J (fun _=>EC.g0.row)) ?_;refine AS fun _ _ _ g E=>?_;refine RTN ?_;refine ⟨?_,g⟩;unfold mthF;simp only [Qja,h1,h2,h3,h4,h6,h8,h9,h10,h11,Wug,Wtg]
 first
 | exact ⟨_,rfl,Jm⟩
 | exact ⟨_,rfl,Ww (l:=[_]) (by first|assumption|exact E.g 0 rfl) rfl (by first|assumption|omega)⟩
 | exact ⟨_,rfl,Ww (l:=[_,_]) (by first|assumption|exact E.g 0 rfl) rfl (by first|assumption|omega)⟩
 refine IF (fun h12=>?_) fun h12=>?_;(try simp only [bsimp] at h12);refine CN fun _ _ _ _ g E=>?_;refine AS fun _ _ _ g E=>?_;refine RTN ?_;refine ⟨?_,g⟩;unfold mthF;simp only [Qja,h1,h2,h3,h4,h6,h8,h9,h10,h11,h12,Wug,Wtg]
 first
 | exact ⟨_,rfl,Jm⟩
 | exact ⟨_,rfl,Ww (l:=[_]) (by first|assumption|exact E.g 0 rfl) rfl (by first|assumption|omega)⟩
 | exact ⟨_,rfl,Ww (l:=[_,_]) (by first|assumption|exact E.g 0 rfl) rfl (by first|assumption|omega)⟩
 refine AU ?_;refine Xs [0,3,2,3] [true,true,true,true] [0,0,3,7] mix KR ?_;have g:=gdr g;replace E:=E.dr;refine AS fun _ _ _ g E=>?_;refine RTN ?_;refine ⟨?_,g⟩;unfold mthF;simp only [Qja,h1,h2,h3,h4,h6,h8,h9,h10,h11,h12,Wug,Wtg]
 first
 | exact ⟨_,rfl,Jm⟩
 | exact ⟨_,rfl,Ww (l:=[_]) (by first|assumption|exact E.g 0 rfl) rfl (by first|assumption|omega)⟩
 | exact ⟨_,rfl,Ww (l:=[_,_]) (by first|assumption|exact E.g 0 rfl) rfl (by first|assumption|omega)⟩
 refine AU ?_;refine Xs [0,3,2,3] [true,true,true,true] [0,0,3,7] mix KR ?_;have g:=gdr g;replace E:=E.dr;refine AS fun _ _ _ g E=>?_;refine RTN ?_;refine ⟨?_,g⟩;unfold mthF;simp only [Qja,h1,h2,h3,h4,h6,h8,Wug,Wtg]
 first
 | exact ⟨_,rfl,Jm⟩
 | exact ⟨_,rfl,Ww (l:=[_]) (by first|assumption|exact E.g 0 rfl) rfl (by first|assumption|omega)⟩
 | exact ⟨_,rfl,Ww (l:=[_,_]) (by first|assumption|exact E.g 0 rfl) rfl (by first|assumption|omega)⟩
theorem Xfe(F t:Nd)(x:Nat→Ck)(S:CSt):Er ((x 0).ex S).2 (memR F t x S).2:=by
 unfold memR;dsimp only;cases decide (((x 0).ex S).1.ty.kind=4);exact fun hn=>(Qu _ _ _).2.2.2.2.2 hn;rw [Wug]
 cases (Ut F ((x 0).ex S).1.ty.name).1.find? fun f=>decide (f.name=t.text) with
 | none=>exact fun hn=>(Qu _ _ _).2.2.2.2.2 hn
 | some f=>exact Er.refl _
theorem Qcf{F t:Nd}{S:CSt}(hk:t.kind=28)(hl:0<t.kids.length)(hl2:(Zb t 0).kind=28→0<(Zb t 0).kids.length):Er (synS F (Zb t 0) S) ((ckT F t).cal S).2:=by
 rw [Ubc];unfold calR;cases hr:((ckX F t 0).rcv S).2;rw [Wng hk,Bha,Wtg,Wmg (by omega:¬ t.kind=27),Ala,Wtg];refine Er.failu ?_ _ _ _;rw [Zee S hk];refine Er.failu (Er.trans ?_ (Xfe F t (ckX F t) S)) _ _ _;rw [Wl hl];unfold synS;cases h:decide ((Zb t 0).kind=28);exact ((Uh F (Zb t 0)).ex S).e;have h':=Wrg h;rw [Ykb F (Zb t 0),Zee S h',Wug];refine Er.failu ?_ _ _ _;have:=Xfe F (Zb t 0) (ckX F (Zb t 0)) S;rwa [Wl (hl2 h')] at this;rw [Wng hk,Bool.and_true,Wug];refine Er.failu ?_ _ _ _;rw [Wl hl] at hr;rw [Jwf hl hl2 hr];exact Er.refl _
theorem Yjf{F k:Nd}{n0 b:Nat}{TB X:List Nat}{r0:Option (List Ty)}{S:CSt}{w:Aa}(h:PC F n0 b TB X r0 (synS F k S) w)(hs:Sc S)(hl:Ln S):PC F n0 b TB X r0 S w:=by
 refine h.back (((Qxa F _).ex S hs).cond (Vs.refl S)) (((ckn_t F _).ex S hl).cond (Nq.refl hl)) ?_;unfold synS;cases decide (k.kind=28);rfl;exact ((Uh F _).ex S).result
theorem RowM.grow{Y:List Nat}{w w':Aa}{l:List Ty}{v:Fa}(h:RowM Y w l v)(g:G w w'):RowM Y w' l v:=h.same fun _ _ hlt _=>g.block hlt
theorem RowM.keep{Y:List Nat}{w w':Aa}{l:List Ty}{v:Fa}{j:Nat}(h:RowM Y w l v)(hg:w.grownBy w' (some j))(hj:j∉Y):RowM Y w' l v:=h.same fun b hb hlt _=>hg.block b hlt fun e=>by
 injection e with e;subst e;exact hj hb
theorem Ykf{F:Nd}{n0 b:Nat}{TB X:List Nat}{r0:Option (List Ty)}{S:CSt}{w:Aa}(h:PC F n0 b TB X r0 S w)(y:Ty)(s:List UInt8)(Z:List Nat)(hZ:∀ j∈Z,j<w.heap.size):Ret PP 170 #[tyV y,Str s] w fun r w'=>(∃ p k c Y,r = .tuple #[.slice p k c,tyV (mthF y s).2.1,.bool (mthF y s).2.2]∧(∀ j∈Z,j∉Y)∧PC F n0 b TB (Y++X) r0 S w'∧RowM Y w' (mthF y s).1 (.slice p k c))∧G w w' :=
 (Yif y s w h.laid.hL h.laid.hb).mono fun r w' hr=>by
 obtain ⟨⟨l,e,p,c,rfl,h1⟩,g⟩:=hr;refine ⟨?_,g⟩;by_cases h0:0<(mthF y s).1.length;obtain ⟨k,o,cs,fr,e1,⟨hk,_⟩,hh,hR⟩:=h1 h0
 exact ⟨p,_,c,[k],e,fun j hj hm=>by rw [Bca] at hm;subst hm;have:=hZ _ hj;omega,h.addF g (fun j hj=>by
  rw [Bca] at hj;subst hj;exact ⟨hk,(Array.getElem?_eq_some_iff.1 hh).1⟩),p,c,rfl,fun _=>⟨k,o,cs,fr,e1,Bca.2 rfl,hh,hR⟩⟩
 exact ⟨p,_,c,[],e,fun j hj hm=>(by cases hm),h.grow g,p,c,rfl,fun q=>absurd q h0⟩
theorem Ylf{F t:Nd}{S:CSt}(hk:t.kind=28)(hl:0<t.kids.length)(hl2:(Zb t 0).kind=28→0<(Zb t 0).kids.length)(h:((ckT F (Zb t 0)).rcv S).2=true):(ckT F t).cal S=((annT t [((ckT F (Zb t 0)).rcv S).1] ty0,(mthF ((ckT F (Zb t 0)).rcv S).1.ty t.text).1,(mthF ((ckT F (Zb t 0)).rcv S).1.ty t.text).2.1),failU (mthF ((ckT F (Zb t 0)).rcv S).1.ty t.text).2.2 t.pos 5 (synS F (Zb t 0) S)):=by
 rw [Ubc];unfold calR;rw [Wng hk,Wl hl,h,Bool.and_true,Wug,Jwf hl hl2 h]
theorem Ucc{F t:Nd}{S:CSt}(h1:(decide (t.kind=28)&&((ckX F t 0).rcv S).2)=false)(h2:(decide (t.kind=27)&&((lookR F S t).2&&decide ((lookR F S t).1.ref=3)))=false)(hc:Can ((ckT F t).ex S).1.ty):(ckT F t).cal S=((((ckT F t).ex S).1,[],ty0),wantS ((ckT F t).ex S).1 7 t.pos ((ckT F t).ex S).2):=by
 rw [Ubc,Ykb F t];rw [Ykb F t] at hc;unfold calR wantS;rw [h1,h2,← Qdb hc Od];rfl
theorem Ytg{F t:Nd}{S:CSt}(HF:FW F)(hk:t.kind=27)(h:(!(findV S.vars t.text).isSome&&fncB F t.text)=true):(lookR F S t).2=true∧(lookR F S t).1.kids=[]∧(ckT F t).cal S=(((lookR F S t).1,parT (findD F 4 t.text).1,resT (findD F 4 t.text).1),S):=by
 simp only [Aaa,Bool.not_eq_true'] at h;have hv:findV S.vars t.text=none:=by simpa using h.1
 have hq:0≤(findD F 4 t.text).2:=Wrg h.2
 have hg:(glbF F t.text).2=false:=by
  unfold glbF;rw [Wmg (by intro q;have:=HF.one _ q;omega)];rfl
 have e:=Jqb (F:=F) (S:=S) (t:=t) hv hg;rw [h.2,Wug] at e;refine ⟨by rw [e],Yoc F S t,?_⟩;rw [Ubc];unfold calR;rw [Wmg O,Ala,Wtg,Wng hk,e];rfl
theorem Qdf{F t:Nd}{S:CSt}(h:(!(findV S.vars t.text).isSome&&fncB F t.text)=false):((lookR F S t).2&&decide ((lookR F S t).1.ref=3))=false:=by
 cases hv:findV S.vars t.text with
 | some v=>rw [Ylc hv];rfl
 | none =>
  rw [hv] at h;cases hg:(glbF F t.text).2;rw [Jqb hv hg,show fncB F t.text=false from by simpa using h];rfl;rw [Ymc hv hg];rfl
theorem Ymf{w w':Aa}{b:Nat}{e:Ba}{l:List Fa}(hg:w.grownBy w' (some b))(h:Blk w b e l)(h':Blk w' b e l):G w w' :=
 ⟨hg.os,hg.tape,hg.output,hg.size,fun k hk=>by
 by_cases q:k=b;subst q;exact h'.trans h.symm;exact hg.block k hk fun e=>q (Option.some.inj e)⟩
structure OutG (X:List Nat) (w w':Aa):Prop where
  os:w'.os=w.os
  tape:w'.tape=w.tape
  output:w'.output=w.output
  size:w.heap.size≤w'.heap.size
  block:∀ k,k<w.heap.size→k∉X→w'.heap[k]? = w.heap[k]?
theorem OutG.refl(X:List Nat)(w:Aa):OutG X w w:=⟨rfl,rfl,rfl,Aba _,fun _ _ _=>rfl⟩
theorem OutG.trans{X:List Nat}{a b c:Aa}(h:OutG X a b)(k:OutG X b c):OutG X a c :=
 ⟨k.os.trans h.os,k.tape.trans h.tape,k.output.trans h.output,Aea h.size k.size,fun i hi hx=>(k.block i (Ata hi h.size) hx).trans (h.block i hi hx)⟩
@[reducible] def outR(X:List Nat):RelX:=⟨fun w w'=>OutG X w w',OutG.refl X,fun h k=>OutG.trans h k⟩
theorem OutG.of_g{X:List Nat}{w w':Aa}(g:G w w'):OutG X w w':=⟨g.os,g.tape,g.output,g.size,fun k hk _=>g.block hk⟩
theorem OutG.of_row{X:List Nat}{w w':Aa}{b:Nat}(hg:w.grownBy w' (some b))(hb:b∈X):OutG X w w':=⟨hg.os,hg.tape,hg.output,hg.size,fun k hk hx=>hg.block k hk fun e=>hx (by injection e with e;rw [e];exact hb)⟩
theorem Blk.out{X:List Nat}{w w':Aa}{b:Nat}{e:Ba}{l:List Fa}(h:Blk w b e l)(g:OutG X w w')(hb:b∉X):Blk w' b e l:=(g.block b h.lt hb).trans h
theorem Udc{b:Nat}:b∉([]:List Nat):=fun h=>by cases h
theorem Uec{b a:Nat}{X:List Nat}(h:b≠a)(k:b∉X):b∉a::X:=fun hm=>by
 rcases Aia.1 hm with q|q;exact h q;exact k q
def CalM(M:Nat)(F t:Nd):Prop:=∀ {n0 b:Nat} {TB X:List Nat} {r0:List Ty} {S:CSt} {w:Aa} {v:Fa} {N:Nat},PC F n0 b TB X (some r0) S w→S.ee=0→CanV S→Kd w (fun k=>k<n0) t.kids v→Bd S N→N+count t≤M→
 RetP PP 161 #[.pointer (some ⟨b,0,none⟩),ndV t v] w (fun r w'=>((ckT F t).cal S).2.ee=0∧(∃ u l Z,r = .tuple #[u,l,tyV ((ckT F t).cal S).1.2.2]∧RetN ((ckT F t).cal S).1.1 w.heap.size u w'∧(∀ j∈X,j∈Z)∧PC F n0 b TB Z (some r0) ((ckT F t).cal S).2 w'∧RowM Z w' ((ckT F t).cal S).1.2.1 l)∧GT (mutC X) n0 w w') (Bad n0 b X (S.scope+1) ((ckT F t).cal S).2 w)
theorem Ynf{t:Nd}{lo:Nat}{v:Fa}{w:Aa}(h:RetN t lo (ndV t v) w):KdN lo w t.kids v:=by
 obtain ⟨p,c,e,k⟩:=h
 have e:v = .slice p t.kids.length c:=by
  injection e with e;have:=congrArg (fun a:Array Fa=>a[4]?) e;simpa [ndCells] using this
 rw [e];exact k
theorem Qs{M:Nat}{F t:Nd}{f:CSt→Nd×CSt}(H:CxM M F 113 t f)(HF:Fx f){k:Int}(hk4:k≠4){n0 b:Nat}{TB X:List Nat}{r0:List Ty}{S:CSt}{w:Aa}{v:Fa}{N m0:Nat}(Z:List Nat)(h:PC F n0 b TB X (some r0) S w)(he:S.ee=0)(hc:CanV S)(hk0:Kd w (fun k=>k<n0) t.kids v)(hb:Bd S N)(hn:N+count t≤M)(hZ:∀ j∈Z,j<w.heap.size)(hm:m0≤w.heap.size) :
 RetP PP 114 #[.pointer (some ⟨b,0,none⟩),ndV t v,tyV ⟨k,[]⟩] w (fun r w'=>(∃ p c,r=ndV (f S).1 (.slice p (f S).1.kids.length c)∧m0≤w.heap.size∧KdX w.heap.size Z w' (f S).1.kids (.slice p (f S).1.kids.length c))∧(wantS (f S).1 k t.pos (f S).2).ee=0∧wantS (f S).1 k t.pos (f S).2=(f S).2∧PC F n0 b TB X (some r0) (f S).2 w'∧GT (mutC X) n0 w w') (Bad n0 b X (S.scope+1) (wantS (f S).1 k t.pos (f S).2) w) :=
 (Ygf H HF hk4 h he hc hk0 hb hn).mono (fun r w' hr=>by
 obtain ⟨h0,h1,⟨p,c,e,k⟩,h2,h3⟩:=hr;exact ⟨⟨p,c,e,hm,KdN.x k hZ⟩,h0,h1,h2,h3⟩) fun _ _ h=>h
theorem Ygb{M:Nat}{F t:Nd}{f:CSt→Nd×CSt}(H:CxM M F 113 t f)(HF:Fx f)(y:Ty){n0 b:Nat}{TB X:List Nat}{r0:List Ty}{S:CSt}{w:Aa}{v:Fa}{N m0:Nat}(Z:List Nat)(h:PC F n0 b TB X (some r0) S w)(he:S.ee=0)(hc:CanV S)(hk0:Kd w (fun k=>k<n0) t.kids v)(hb:Bd S N)(hn:N+count t≤M)(hZ:∀ j∈Z,j<w.heap.size)(hm:m0≤w.heap.size) :
 RetP PP 112 #[.pointer (some ⟨b,0,none⟩),ndV t v,tyV y] w (fun r w'=>(∃ p c,r=ndV (f S).1 (.slice p (f S).1.kids.length c)∧m0≤w.heap.size∧KdX w.heap.size Z w' (f S).1.kids (.slice p (f S).1.kids.length c))∧(failU (Us y (f S).1.ty) t.pos 7 (f S).2).ee=0∧failU (Us y (f S).1.ty) t.pos 7 (f S).2=(f S).2∧PC F n0 b TB X (some r0) (f S).2 w'∧GT (mutC X) n0 w w') (Bad n0 b X (S.scope+1) (failU (Us y (f S).1.ty) t.pos 7 (f S).2) w) :=
 (Zde H HF y h he hc hk0 hb hn).mono (fun r w' hr=>by
 obtain ⟨h0,h1,⟨p,c,e,k⟩,h2,h3⟩:=hr;exact ⟨⟨p,c,e,hm,KdN.x k hZ⟩,h0,h1,h2,h3⟩) fun _ _ h=>h
theorem Zfe{F t:Nd}(HF:FW F)(FX:Fx (ckT F t).ex)(HX:CxM 1000000 F 113 t (ckT F t).ex)(hl:t.kind=28→0<t.kids.length)(HX0:t.kind=28→(Zb t 0).kind=28→0<(Zb t 0).kids.length∧CxM 1000000 F 113 (Zb (Zb t 0) 0) (ckT F (Zb (Zb t 0) 0)).ex):CalM 1000000 F t:=by
 intro n0 b TB X r0 S w v N h he hc hk0 hb hn;obtain ⟨p,c,rfl,_⟩:=id hk0;have hlt:=h.lt;have htb:=h.tb;have hs:=h.scs;have htb2:∀ j∈TB,j<w.heap.size:=fun j hj=>htb.2 j (htb.1 j hj);have ec:=Ubc F t S;have g:=GT.refl (mutC X) n0 w;refine Vi (m:=68) Tryz.func161 J J [(0,True,_),(1,True,_)] (Za J (Za J (Zr _))) ?_;refine BM fun b3 _ ga _ g E=>?_;have hp3:=h;have h:=Ui h;have hk0:=Ui hk0;refine AN fun b4 _ ga _ g E=>?_;have hp4:=h;have h:=Ui h;have hk0:=Ui hk0;refine AN fun b6 w6 N6 _ g E=>?_;have hp6:=h;have h:=h.grow (N6.g);have hk0:=hk0.grow (N6.g);have h:=hp6.addX N6;refine IF (fun h1=>?_) fun h1=>?_
 ·replace h1:t.kind=28:=Wrg h1
  have hl0:=hl h1;obtain ⟨e0,p1,c1,hcell,hkid⟩:=Yq hk0 (i:=0) hl0;have hcN:=Xra hl0;have hsc1:=Vsa t 1;have hsc0:sC t 1=0+cN t 0:=rfl;refine AU ?_;have hZ20:∀ j∈[b3,b4,b6],j<w6.heap.size:=E.ltm Ob;have hq20:=g.size;refine Y2 J Xga J J (Yhf HF (HX0 h1) h he hc hkid hb O) ((fun ch w' hz=>Bad.pass hz (Qcf h1 hl0 (fun q=>(HX0 h1 q).1)) (Aba _) g)) ?_;rintro v20 w20 ⟨⟨x20,m20,z20,q20,rfl,k20⟩,he1,h,g20⟩;refine ⟨nw1,?_⟩;have g:=gtw g g20;replace E:=E.gtx g20;have kf20:=fun q=>KdN.x (Ynf (k20 q).2) hZ20;have hk0:=hk0.gt g20 (fun k h=>h);refine AN fun b7 _ ga _ g E=>?_;have hp7:=h;have kf20:=fun q=>(kf20 q).new ga;have h:=Ui h;have hk0:=Ui hk0;refine AS fun _ ga Ca g E=>?_;first|have h:=h.keep ga Ca O (.inl rfl)|have h:=h.keep ga Ca O (.inr ⟨by simp,fun hm=>by have:=htb2 _ hm;omega⟩)
  have hk0:=Ud hk0;have kf20:=fun q=>(kf20 q).keep ga Oi;refine IF (fun h2=>?_) fun h2=>?_
  ·obtain ⟨hx20,k20⟩:=k20 h2
   have kd20:=kf20 h2;subst hx20;have es:=Ylf h1 hl0 (fun q=>(HX0 h1 q).1) h2;have hsc2:(synS F (Zb t 0) S).scope=S.scope:=by unfold synS;cases decide ((Zb t 0).kind=28) <;> first|rfl|exact ((Uh F _).ex S).scope
   refine AU ?_;refine CL (Ykf h ((ckT F (Zb t 0)).rcv S).1.ty t.text [b3,b4,b6,b7] (E.ltm Ob)) ?_;rintro _ _ ⟨⟨p29,z29,c29,Y,rfl,hY,hz,hM⟩,ga⟩;refine RC fun g E=>?_;have h:=Uk h;have kd20:=Uk kd20;have kf20:=fun q=>(kf20 q).grow (ga);refine AS fun _ ga Ca g E=>?_;first|have h:=h.keep ga Ca O (.inl rfl)|have h:=h.keep ga Ca O (.inr ⟨by simp,fun hm=>by have:=htb2 _ hm;omega⟩)
   have kd20:=kd20.keep ga Oi;have kf20:=fun q=>(kf20 q).keep ga Oi;have hz:=(by first|exact hz.keep ga Ca O (.inl rfl)|exact hz.keep ga Ca O (.inr ⟨by simp,fun hm=>by have:=htb2 _ hm;omega⟩):PC F n0 b TB _ (some r0) _ _);have hM:=hM.keep ga (hY _ Os);refine AU ?_;refine Y3 J Ye J J J (Vf _ _ _ _) ((fun ch w' hz'=>Ul (h.sub (Y:=X) htb.1 (by intro j hj;simp [hj])) he1 Od (by rw [es];exact Er.refl _) hz' g (by rw [hsc2];exact Aba _))) ?_;rintro _ _ ⟨rfl,hq,ga⟩;refine RC fun g E=>?_;have h:=Uk h;have hz:=Uk hz;have hM:=Uk hM;have kd20:=Uk kd20;refine AU ?_;refine CL (Jn t _ _ _) ?_;rintro _ _ ⟨rfl,ga⟩;refine RC fun g E=>?_;have h:=Uk h;have kd20:=Uk kd20;have hz:=Uk hz;have hM:=Uk hM;refine AS fun _ ga Ca g E=>?_;first|have h:=h.keep ga Ca O (.inl rfl)|have h:=h.keep ga Ca O (.inr ⟨by simp,fun hm=>by have:=htb2 _ hm;omega⟩)
   have kd20:=kd20.keep ga Oi;have hz:=(by first|exact hz.keep ga Ca O (.inl rfl)|exact hz.keep ga Ca O (.inr ⟨by simp,fun hm=>by have:=htb2 _ hm;omega⟩):PC F n0 b TB _ (some r0) _ _);have hM:=hM.keep ga (hY _ Os);refine CN fun _ _ ga l40 g E=>?_;have hp40:=h;have kd20:=Uj kd20;have h:=Ui h;have hz:=Ui hz;have hM:=Ui hM;refine AS fun _ ga Ca g E=>?_;first|have h:=h.keep ga Ca O (.inl rfl)|have h:=h.keep ga Ca O (.inr ⟨by simp,fun hm=>by have:=htb2 _ hm;omega⟩)
   have kd20:=kd20.keep ga Oi;have hz:=(by first|exact hz.keep ga Ca O (.inl rfl)|exact hz.keep ga Ca O (.inr ⟨by simp,fun hm=>by have:=htb2 _ hm;omega⟩):PC F n0 b TB _ (some r0) _ _);have hM:=hM.keep ga (hY _ Os);refine AU ?_;refine Xh (rowR none) [0,3,0,1,3,1] [0,0,0,1,11,31] mix KR [0,1,2,3,4,5] J ?_;have g:=gtd g;replace E:=E.dr;have h:=h.grow (G.drew _);have kd20:=kd20.grow (G.drew _);have kf20:=fun q=>(kf20 q).grow (G.drew _);have hz:=hz.grow (G.drew _);have hM:=hM.grow (G.drew _);refine Yi 0 J J (fun w1 hx=>Zo Zf (Zd J) J (fun _=>(E.g3.keep hx (fun h=>nomatch h)).row)) (Zx 1 J J (fun _=>Zw (Zd J)) (Yi 2 J J (fun w1 hx=>Zo Zm (Zd J) J (fun _=>(E.g2.keep hx (fun h=>nomatch h)).row)) (Zt 3 J J ?_)));refine Zn (L':=[4,5]) [0,3,0,2,3,2] J J J ?_;refine Zfa Yj J J J E.g3 ?_;intro wS5 hgS5 _ BS;have gS5:=Ymf hgS5 E.g3 BS;have g:=gtg g gS5;replace E:=E.grow gS5;have kd20:=kd20.grow (gS5);have hz:=hz.grow (gS5);have hM:=hM.grow (gS5);refine Zy (gS5.only _) ?_;refine Zx 4 J J (fun _=>Jc (Zd J)) (Zt 5 J J ?_);refine Zn (L':=[]) [0,3,0,2,3,2] J J J ?_;refine Zfa Xv J J J E.g2 ?_;intro wS6 hgS6 _ BS;have gS6:=Ymf hgS6 E.g2 BS;have g:=gtg g gS6;replace E:=E.grow gS6;have kd20:=kd20.grow (gS6);have hz:=hz.grow (gS6);have hM:=hM.grow (gS6);refine Zy (gS6.only _) ?_;refine TK [0,3,4,5,6] ?_;refine RTN ?_;rw [es,hq];exact ⟨he1,⟨_,_,Y++_,rfl,Xp (t:=annT t [_] ty0) rfl (Zga (ks:=[_]) ⟨l40,Jl E.g0⟩ E.g0.row (Vd (kd20.kdN hq20)) (Aba _)),fun j hj=>by simp [hj],hz,hM.wide (fun j hj=>by simp [hj])⟩,g⟩
  have h:=Yjf h hs hb.lv;have hcal:(decide (t.kind=28)&&((ckX F t 0).rcv S).2)=false:=by rw [Wl hl0,h2,Bha]
  have e:=Ucc hcal (by rw [Wmg (by omega:¬ t.kind=27),Ala]) (FX.can S hs hc);refine IF (fun h3=>?_) fun h3=>?_
  ·exfalso;have:=Wrg h3;omega
   done
  refine Yw (kq (Zj (Zl (Zv J (Wm Zf J J E.g3.row (Wm Zm J J h.laid.hC.2.2.2.2.2 (Y3 J Xj J J J (Qs HX FX Od [b3,b4,b6] h he hc hk0 hb hn (E.ltm Ob) g.size) ((fun ch w' hz=>Bad.pass hz (by rw [e];exact Er.refl _) (Aba _) g)) ?_)))))));rintro v66 w66 ⟨⟨p66,d66,rfl,q66,k66⟩,he2,eW,h,g66⟩;refine ⟨nw1,?_⟩;have g:=gtw g g66;replace E:=E.gtx g66;refine AS fun _ ga Ca g E=>?_;first|have h:=h.keep ga Ca O (.inl rfl)|have h:=h.keep ga Ca O (.inr ⟨by simp,fun hm=>by have:=htb2 _ hm;omega⟩)
  have k66:=k66.keep ga Oi;refine AS fun _ ga Ca g E=>?_;first|have h:=h.keep ga Ca O (.inl rfl)|have h:=h.keep ga Ca O (.inr ⟨by simp,fun hm=>by have:=htb2 _ hm;omega⟩)
  have k66:=k66.keep ga Oi;refine RTN ?_;rw [eW] at he2;rw [e,eW];exact ⟨he2,⟨_,_,X,rfl,Xp rfl (k66.kdN q66),fun j hj=>hj,h.sub htb.1 (by intro j hj;simp [hj]),⟨none,0,rfl,fun q=>(Bia 0 q).elim⟩⟩,g⟩
 replace h1:t.kind≠28:=Wsg h1;refine IF (fun h4=>?_) fun h4=>?_
 ·have h27:t.kind=27:=Wrg h4
  have hnum:numS t=0:=by unfold numS Wvb;rw [Wmg O,Wmg O];rfl
  refine AU ?_;refine CL (Zce h hb O t.text) ?_;rintro _ _ ⟨⟨k52,m52,z52,q52,y52,rfl,H52⟩,ga⟩;refine RC fun g E=>?_;have h:=Uk h;have hk0:=Uk hk0;have M52:=fun q=>(H52 q).2.2;refine AN fun _ _ ga _ g E=>?_;have hp9:=h;have h:=Ui h;have hk0:=Ui hk0;have M52:=fun q=>(M52 q).grow (ga.g);refine AS fun _ ga Ca g E=>?_;first|have h:=h.keep ga Ca O (.inl rfl)|have h:=h.keep ga Ca O (.inr ⟨by simp,fun hm=>by have:=htb2 _ hm;omega⟩)
  have hk0:=Ud hk0;have M52:=fun q=>(M52 q).keep ga (fun hm=>by have:=htb2 _ hm;omega);refine IF (fun h5=>?_) fun h5=>?_
  ·obtain ⟨q1,q2,q3⟩:=Ytg HF h27 h5
   obtain ⟨f1,f2,_⟩:=H52 h5;have f3:=M52 h5;refine AU ?_;refine Xh (rowR (some b4)) [3,0,1,3,0,3,0,1,3,2] [0,0,3,0,8,0,32,7,159,511] mix KR [0,1,2,3,4,5,6,7,8,9] J ?_;have g:=gtd g;replace E:=E.dr;have h:=h.grow (G.drew _);have M52:=fun q=>(M52 q).grow (G.drew _);have f3:=f3.grow (G.drew _);refine Zx 0 J J (fun _=>Zw (Zd J)) (Yi 1 J J (fun w1 hx=>Zo Zf (Zd J) J (fun _=>(E.g3.keep hx (fun h=>E.ne 3 2 J J J (Option.some.inj h))).row)) (Zx 3 J J (fun _=>Zi Qz (Zd J)) (Yi 4 J J (fun w1 hx=>Zq Vw (Zd J) (fun _=>(E.g0.keep hx (fun h=>E.ne 0 2 J J J (Option.some.inj h))).at_ J)) (Zx 5 J J (fun _=>Zi Ja (Zd J)) (Yi 6 J J (fun w1 hx=>Zo Zm (Zd J) J (fun _=>(E.g0.keep hx (fun h=>E.ne 0 2 J J J (Option.some.inj h))).row.part 2 2)) (Zt 2 J J ?_))))));refine Zn (L':=[7,8,9]) [3,0,1,3,0,3,0,2,3,2] J J J ?_;refine Y2 J Jr J J (Ync t _ _ h hb O HF.res hnum) ((fun ch w' hz=>by rw [q1] at hz;exact Baa hz.1)) ?_;rintro v58 w58 ⟨_,rfl,g58⟩;refine ⟨fun _=>g58,?_⟩;have g:=gtg g g58;have h:=h.grow g58;have f3:=f3.grow g58;replace E:=E.grow g58;refine Zy (g58.only _) ?_;refine Zt 7 J J ?_;refine Zn (L':=[8,9]) [3,0,1,3,0,3,0,2,3,2] J J J ?_;refine AS fun _ hgS10 Ca g E=>?_;first|have h:=h.keep hgS10 Ca O (.inl rfl)|have h:=h.keep hgS10 Ca O (.inr ⟨by simp,fun hm=>by have:=htb2 _ hm;omega⟩)
   have f3:=f3.keep hgS10 (fun hm=>by have:=htb2 _ hm;omega);refine Zy (hgS10) ?_;refine Zx 8 J J (fun _=>Jc (Zd J)) (Zt 9 J J ?_);refine Xb (L':=[]) [3,0,1,3,0,3,0,2,3,2] J J J J ?_;refine AS fun _ ga Ca g E=>?_;first|have h:=h.keep ga Ca O (.inl rfl)|have h:=h.keep ga Ca O (.inr ⟨by simp,fun hm=>by have:=htb2 _ hm;omega⟩)
   have f3:=f3.keep ga (fun hm=>by have:=htb2 _ hm;omega);refine Xx ?_;refine TK [0,3,4,5,6] ?_;refine RTN ?_;rw [q3];dsimp only;rw [← f2];exact ⟨he,⟨_,_,X,rfl,Ygc _ _ _ q2,fun j hj=>hj,h.sub htb.1 (by intro j hj;simp [hj]),f3.wide htb.1⟩,g⟩
  have e:=Ucc (F:=F) (S:=S) (by rw [Wmg h1,Ala]) (by rw [Qdf h5,Bha]) (FX.can S hs hc);refine Yw (kq (Zj (Zl (Zv J (Wm Zf J J E.g3.row (Wm Zm J J h.laid.hC.2.2.2.2.2 (Y3 J Xj J J J (Qs HX FX Od [b3,b4,b6] h he hc hk0 hb hn (E.ltm Ob) g.size) ((fun ch w' hz=>Bad.pass hz (by rw [e];exact Er.refl _) (Aba _) g)) ?_)))))));rintro v66 w66 ⟨⟨p66,d66,rfl,q66,k66⟩,he2,eW,h,g66⟩;refine ⟨nw1,?_⟩;have g:=gtw g g66;replace E:=E.gtx g66;refine AS fun _ ga Ca g E=>?_;first|have h:=h.keep ga Ca O (.inl rfl)|have h:=h.keep ga Ca O (.inr ⟨by simp,fun hm=>by have:=htb2 _ hm;omega⟩)
  have k66:=k66.keep ga Oi;refine AS fun _ ga Ca g E=>?_;first|have h:=h.keep ga Ca O (.inl rfl)|have h:=h.keep ga Ca O (.inr ⟨by simp,fun hm=>by have:=htb2 _ hm;omega⟩)
  have k66:=k66.keep ga Oi;refine RTN ?_;rw [eW] at he2;rw [e,eW];exact ⟨he2,⟨_,_,X,rfl,Xp rfl (k66.kdN q66),fun j hj=>hj,h.sub htb.1 (by intro j hj;simp [hj]),⟨none,0,rfl,fun q=>(Bia 0 q).elim⟩⟩,g⟩
 have e:=Ucc (F:=F) (S:=S) (by rw [Wmg h1,Ala]) (by rw [show decide (t.kind=27)=false from h4,Ala]) (FX.can S hs hc);refine Yw (kq (Zj (Zl (Zv J (Wm Zf J J E.g2.row (Wm Zm J J h.laid.hC.2.2.2.2.2 (Y3 J Xj J J J (Qs HX FX Od [b3,b4,b6] h he hc hk0 hb hn (E.ltm Ob) g.size) ((fun ch w' hz=>Bad.pass hz (by rw [e];exact Er.refl _) (Aba _) g)) ?_)))))));rintro v66 w66 ⟨⟨p66,d66,rfl,q66,k66⟩,he2,eW,h,g66⟩;refine ⟨nw1,?_⟩;have g:=gtw g g66;replace E:=E.gtx g66;refine AS fun _ ga Ca g E=>?_;first|have h:=h.keep ga Ca O (.inl rfl)|have h:=h.keep ga Ca O (.inr ⟨by simp,fun hm=>by have:=htb2 _ hm;omega⟩)
 have k66:=k66.keep ga Oi;refine AS fun _ ga Ca g E=>?_;first|have h:=h.keep ga Ca O (.inl rfl)|have h:=h.keep ga Ca O (.inr ⟨by simp,fun hm=>by have:=htb2 _ hm;omega⟩)
 have k66:=k66.keep ga Oi;refine RTN ?_;rw [eW] at he2;rw [e,eW];exact ⟨he2,⟨_,_,X,rfl,Xp rfl (k66.kdN q66),fun j hj=>hj,h.sub htb.1 (by intro j hj;simp [hj]),⟨none,0,rfl,fun q=>(Bia 0 q).elim⟩⟩,g⟩
end Go.Rk
