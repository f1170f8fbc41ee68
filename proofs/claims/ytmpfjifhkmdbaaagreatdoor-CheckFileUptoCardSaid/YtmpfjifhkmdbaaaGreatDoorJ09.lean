/- Texts. Conditions: each its own. -/
import Derived.Test.YtmpfjifhkmdbaaaGreatDoorJ08
set_option linter.unusedSimpArgs false
set_option linter.unusedVariables false
set_option maxHeartbeats 16000000
set_option maxRecDepth 100000
open Decidable renaming decide→Ac
namespace Go.Proofs
end Go.Proofs
namespace Go.Rk
open Go.Proofs
open Go Go.RowKit
def lK:List UInt8:=List.append [118,97,114,32,103,32,105,110,116] (10::[102,117,110,99,32,109,97,105,110,40,41,32,123,32,120,32,58,61,32,103,59,32,102,117,110,99,40,41,32,123,32,120,32,61,32,120,32,43,32,49,32,125,40,41,32,125])
def Aao:List UInt8:=[102,117,110,99,32,109,97,105,110,40,41,32,123,32,120,32,61,32,49,32,125]
def yQ:List UInt8:=[102,117,110,99,32,109,97,105,110,40,41,32,123,32,120,32,58,61,32,110,105,108,32,125]
def oG:List UInt8:=[102,117,110,99,32,109,97,105,110,40,41,32,123,32,120,32,58,61,32,49,59,32,120,32,58,61,32,50,32,125]
def Aba:List UInt8:=[102,117,110,99,32,102,40,41,32,123,32,125]
def Qk(t:Nd):Bool:=(((Ac (t.k=27)&&Ac (t.o=[120]))&&Ac (t.ref=1))&&Ac (t.num=0))&&Ac (t.ty.k=1)
def MX(l:List Nd):Int:=(l.map fun t=>bif Qk t then t.up else 0).sum
def QL(a e:Int)(T:Nd):Bool:=Ac (count T≤1000000)&&(Ac ((D8 T).2.1=a)&&Ac ((D8 T).2.2=e))
def dG(T:Nd):Bool:=(Ac (count T≤1000000)&&Ac ((D8 T).2.2=0))&&((Ac (count (D8 T).1≤1000)&&Ac ((GC (D8 T).1).length≤1000))&&(((GC (D8 T).1).all fun t=>Ac (0≤t.up)&&Ac (t.up≤100))&&Ac (MX (GC (D8 T).1)=2)))
theorem RZ{q:Nd→Bool}{x:Option Nd}(h:x.any q=true):∃ T,x=some T∧q T=true:=by
 cases x with
 | none=>cases h
 | some T=>exact ⟨T,rfl,h⟩
theorem To{a e:Int}{T:Nd}(h:QL a e T=true):count T≤1000000∧(D8 T).2.1=a∧(D8 T).2.2=e:=by
 unfold QL at h;simpa using h
theorem xZ:(Oz lK).any dG=true:=by decide +kernel
theorem Agk:(Oz Aao).any (QL 14 5)=true:=by decide +kernel
theorem lA:(Oz yQ).any (QL 19 7)=true:=by decide +kernel
theorem oE:(Oz oG).any (QL 22 6)=true:=by decide +kernel
theorem lJ:(Oz Aba).any (QL 0 5)=true:=by decide +kernel
end Go.Rk
