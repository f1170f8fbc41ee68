/- Merged texts. Conditions: each text's own. -/
import Derived.Test.YtmpfjifhkmdbaaaGreatDoorH03
import Derived.Test.YtmpfjifhkmdbaaaGreatDoorH01
import Derived.Test.YtmpfjifhkmdbaaaGreatDoorH02
import Derived.ChangeSame
import Derived.OpenShut
import Derived.Below
import Derived.Test.YtmpfjifhkmdbaaaGreatDoorCards
import Derived.Test.YtmpfjifhkmdbaaaGreatDoorTie
import Derived.WalkKit
import Derived.ProofKit
import Derived.Deep.DeepHandedRow
import Derived.Deep.DeepWitnessRowRef
import Derived.Lib.LaidTab
import Derived.Stop.LaidErr
import Derived.ShutString
import Derived.ChangeMaps5
import Derived.Test.YtmpfjifhkmdbaaaGreatDoorRows
import Derived.Deep.Slices
import Derived.Carry
set_option linter.unusedSimpArgs false
set_option linter.unusedVariables false
set_option maxHeartbeats 16000000
set_option maxRecDepth 100000
open Array renaming getElem?_toList→Aja,getElem?_eq_some_iff→Axa
open Bool renaming and_eq_true→Aga,false_and→Ama,noConfusion→Awa,and_false→Bka,not_not→Bma
open Go renaming World→Aa,TypeId→Ba,PanicEntry→Da,Program→Ea,Value→Fa
open Go.World renaming block_lt_of_cell?→Ga,cell?_of_block→Ha
open Int renaming toNat_of_nonneg→Bya
open List renaming forall_mem_cons→Aba,length_append→Ada,mem_cons_of_mem→Aha,getElem?_eq_getElem→Aia,length_singleton→Aka,range→Ala,forall_mem_nil→Ana,mem_cons→Aqa,getElem?_take→Asa,mem_singleton→Ata,drop_eq_nil_of_le→Aua,length_take→Ava,mem_flatten→Aya,drop_zero→Aza,getElem?_eq_none→Bba,mem_append→Bca,map_append→Bda,getElem_of_mem→Bea,getElem?_append_left→Bfa,getElem?_append_right→Bga,map_cons→Bha,map_nil→Bia,drop_eq_getElem_cons→Bja,flatMap_append→Bna,length_set→Boa,take_succ_cons→Bqa,drop_succ_cons→Bra,getElem?_cons_zero→Bsa,getElem?_cons_succ→Bta,flatten_append→Bva,take_append_drop→Bwa,mem_of_getElem?→Bxa,mem_of_find?_eq_some→Bza,take_of_length_le→Caa,getElem?_set_self→Cba,getElem?_set_ne→Cca
open Nat renaming le_refl→Aaa,beq→Aca,le_trans→Aea,zero_add→Afa,lt_of_lt_of_le→Aoa,zero_le→Apa,eq_of_beq_eq_true→Ara,mul_one→Baa,lt_irrefl→Bla,eq_zero_or_pos→Bua
open Option renaming map_eq_some_iff→Bpa
namespace Go.Proofs
end Go.Proofs
namespace Go.Rk
open Go.Proofs
open Go Go.RowKit
def typC(e:Nat):Bool:=Aca e 59 || (Aca e 84 || (Aca e 82 || (Aca e 3 || Aca e 24)))
def mutC(X:List Nat)(e k:Nat):Bool:=typC e && !decide (k∈X)
@[reducible] def gtC(X:List Nat)(n0:Nat):RelX:=⟨fun w w'=>GT (mutC X) n0 w w',GT.refl (mutC X) n0,fun h k=>GT.trans h k⟩
theorem GT.wide{X X':List Nat}{n0:Nat}{w w':Aa}(g:GT (mutC X') n0 w w')(h:∀ j∈X,j∈X'):GT (mutC X) n0 w w' :=
 ⟨g.os,g.tape,g.output,g.size,fun k hk hb=>g.block k hk (hb.imp id fun hn ⟨cs,e,fr,hr,hm⟩=>hn ⟨cs,e,fr,hr,by
 unfold mutC at hm ⊢;simp only [Aga,Bool.not_eq_true',Zbh] at hm ⊢;exact ⟨hm.1,fun hx=>hm.2 (h k hx)⟩⟩)⟩
theorem gtw{X X':List Nat}{n0:Nat}{a w w':Aa}(g:GT (mutC X) n0 a w)(k:GT (mutC X') n0 w w')(h:∀ j∈X,j∈X':=by intro j hj;simp [hj]):GT (mutC X) n0 a w':=g.trans (k.wide h)
def OkX(X:List Nat):List (Nat×Ba×List Fa)→Prop
 | []=>True
 | (b,e,_)::L=>(typC e=false∨b∈X)∧OkX X L
theorem Obk.gtx{X:List Nat}{n0:Nat}{w w':Aa}{L:List (Nat×Ba×List Fa)}(E:Obk w L)(g:GT (mutC X) n0 w w')(hL:OkX X L:=by repeat' (first|exact trivial|refine ⟨?_,?_⟩|exact .inl rfl|exact .inr Os)):Obk w' L:=by
 have key:∀ (L:List (Nat×Ba×List Fa)),OkX X L→∀ b e l,(b,e,l)∈L→typC e=false∨b∈X:=by
  intro L
  induction L with
  | nil=>intro _ b e l hm;cases hm
  | cons x L ih =>
   obtain ⟨b',e',l'⟩:=x;intro h b e l hm;rcases Aqa.1 hm with q|q;injection q with q1 q2;injection q2 with q2 _;subst q1 q2;exact h.1;exact ih h.2 b e l q
 refine ⟨E.1,Xea E.2 fun b e l hm h=>(g.block b h.lt (.inr fun ⟨cs,f,fr,hr,hM⟩=>?_)).trans h⟩;unfold Blk at h;rw [h] at hr;injection hr with hr;injection hr with _ hr;subst hr;unfold mutC at hM;simp only [Aga,Bool.not_eq_true',Zbh] at hM;rcases key L hL b e l hm with q|q;rw [q] at hM;exact Awa hM.1;exact hM.2 q
def pcCells(F:Nd)(fv:Fa)(ms mg mn mf:Nat)(sv cv rv:Fa):List Fa:=ndCells F fv++[.map (some ms),.map (some mg),.map (some mn),.map (some mf),sv,cv,rv]
def fnV(k:Nat)(pv:Fa)(y:Ty):Fa:=.agg #[.int .i64 k,pv,.int .i64 y.kind,Str y.name]
def parT(d:Nd):List Ty:=(Za d 0).kids.map fun p=>(ofF (Za p 0)).1
def resT(d:Nd):Ty:=(ofF (Za d 1)).1
def RowM(TB:List Nat)(w:Aa)(l:List Ty)(v:Fa):Prop:=∃ p c,v = .slice p l.length c∧(0<l.length→∃ b o cs fr,p=some ⟨b,o,none⟩∧b∈TB∧w.heap[b]? = some (.cells cs 24 fr)∧RowAt w b o (l.flatMap tyCells))
theorem RowM.same{TB:List Nat}{w w':Aa}{l:List Ty}{v:Fa}(h:RowM TB w l v)(hs:∀ b∈TB,b<w.heap.size→(∃ cs fr,w.heap[b]? = some (.cells cs 24 fr))→w'.heap[b]? = w.heap[b]?):RowM TB w' l v:=by
 obtain ⟨p,c,rfl,h⟩:=h;refine ⟨p,c,rfl,fun h0=>?_⟩;obtain ⟨b,o,cs,fr,rfl,hb,hh,hR⟩:=h h0;have e:=hs b hb (Axa.1 hh).1 ⟨cs,fr,hh⟩;exact ⟨b,o,cs,fr,rfl,hb,e.trans hh,fun i v hi=>(Ha e).trans (hR i v hi)⟩
structure Tab (F:Nd) (TB:List Nat) (ms mg mn mf:Nat) (pv:Nat→Fa) (w:Aa):Prop where
  hs:MapS w ms (numK 2 (fun _ _=>.bool true) F.kids 0)
  hg:MapS w mg (numK 6 (fun _ d=>tyV (ofF (Za d 0)).1) F.kids 0)
  hn:MapS w mn (numK 6 (fun k _=>.int .i64 k) F.kids 0)
  hf:MapS w mf (numK 4 (fun k d=>fnV k (pv k) (resT d)) F.kids 0)
  hp:∀ s,0≤(findD F 4 s).2→RowM TB w (parT (findD F 4 s).1) (pv (findD F 4 s).2.toNat)
def Xrf(w:Aa):Prop:=RowAt w 2 0 (tyCells tInt)∧RowAt w 3 0 (tyCells tBool)∧RowAt w 4 0 (tyCells tNil)∧RowAt w 6 0 (tyCells ⟨5,[]⟩)∧RowAt w 1 0 (tyCells ⟨6,[]⟩)∧RowAt w 5 0 (tyCells tFunc)
structure LaidW (n0:Nat) (w:Aa):Prop where
  hL:Laid w
  hT:LaidT w
  hC:Xrf w
  hG:10≤n0
  hn:n0≤w.heap.size
theorem LaidW.hb{n0:Nat}{w:Aa}(h:LaidW n0 w):10≤w.heap.size:=Aea h.hG h.hn
theorem Jc{w w':Aa}{b o:Nat}{l:List Fa}(h:RowAt w b o l)(e:w'.heap[b]? = w.heap[b]?):RowAt w' b o l:=fun i v hi=>(Ha e).trans (h i v hi)
theorem LaidW.below{n0:Nat}{w w':Aa}(h:LaidW n0 w)(g:Below n0 w w'):LaidW n0 w':=by
 have hg:=h.hG;have s:∀ k,k<10→w'.heap[k]? = w.heap[k]?:=fun k hk=>g.block k O;obtain ⟨c1,c2,c3,c4,c5,c6⟩:=h.hC;exact ⟨h.hL.below h.hG g,Jc h.hT (s _ Od),⟨Jc c1 (s _ Od),Jc c2 (s _ Od),Jc c3 (s _ Od),Jc c4 (s _ Od),Jc c5 (s _ Od),Jc c6 (s _ Od)⟩,h.hG,Aea h.hn g.size⟩
def rsT:Option (List Ty)→Ty→List Ty
 | none,_=>[]
 | some l,y=>l++[y]
structure PK (F:Nd) (n0 b:Nat) (TB X:List Nat) (r0:Option (List Ty)) (S:CSt) (fv:Fa) (ms mg mn mf:Nat) (pv:Nat→Fa) (sv cv rv:Fa) (vs:List Fa) (sc:List (List Vr)) (w:Aa):Prop where
  B:Blk w b 59 (pcCells F fv ms mg mn mf sv cv rv)
  hb:n0≤b
  kF:Kd w (fun k=>k<n0) F.kids fv
  hF:count F≤1000000
  T:Tab F TB ms mg mn mf pv w
  L:LaidW n0 w
  so:w.ownsRow n0 82 1 sv vs.length vs
  sr:ScR 84 n0 w vs sc
  fl:sc.flatten=S.vars
  sl:sc.length=S.scope+1
  ss:∀ (i:Nat) (l:List Vr),sc[i]? = some l→∀ v∈l,v.scope=i
  co:w.ownsRow n0 3 1 cv (S.level+1) ((S.next.take (S.level+1)).map fun (k:Nat)=>Value.int .i64 (k:Int))
  ro:w.ownsRow n0 24 2 rv (rsT r0 S.result).length ((rsT r0 S.result).flatMap tyCells)
  rl:∀ l,r0=some l→l.length=S.level
  tx:∀ j∈TB,j∈X
  xl:∀ j∈X,j<w.heap.size
  bx:b∉X
  sx:∀ k,sv.ownBlock=some k→k∉X
  vx:∀ (i:Nat) (v:Fa),vs[i]? = some v→∀ k,v.ownBlock=some k→k∉X
  cx:∀ k,cv.ownBlock=some k→k∉X
  rx:∀ k,rv.ownBlock=some k→k∉X
  sz:sc.length≤2000000
def PC(F:Nd)(n0 b:Nat)(TB X:List Nat)(r0:Option (List Ty))(S:CSt)(w:Aa):Prop:=∃ fv ms mg mn mf pv sv cv rv vs sc,PK F n0 b TB X r0 S fv ms mg mn mf pv sv cv rv vs sc w
section
variable {F:Nd} {n0 b:Nat} {TB X:List Nat} {r0:Option (List Ty)} {S:CSt} {fv:Fa} {ms mg mn mf:Nat} {pv:Nat→Fa} {sv cv rv:Fa} {vs:List Fa} {sc:List (List Vr)} {w w':Aa}
def Ow(X:List Nat)(w:Aa)(k:Nat):Prop:=(∃ cs e fr,w.heap[k]? = some (.cells cs e fr)∧typC e=true)∧k∉X
theorem Uoc{e:Ba}{z m:Nat}{v:Fa}{xs:List Fa}(h:w.ownsRow n0 e z v m xs)(he:typC e=true)(hx:∀ k,v.ownBlock=some k→k∉X):∀ k,v.ownBlock=some k→k<w.heap.size∧Ow X w k:=fun k hk=>by
 refine ⟨(h.lt k hk).2,?_,hx k hk⟩;rcases h.2 with ⟨h1,_⟩|⟨g,cap,cur,h1,h2,h3,_⟩;rw [h1] at hk;cases hk;rw [h1] at hk;have:g=k:=by injection hk
 subst this;exact ⟨_,_,_,h3,he⟩
theorem PK.fr(h:PK F n0 b TB X r0 S fv ms mg mn mf pv sv cv rv vs sc w)(hz:w.heap.size≤w'.heap.size)(hB:Below n0 w w')
 (h1:∀ (k:Nat),k<w.heap.size→Ow X w k→w'.heap[k]? = w.heap[k]?) (h2:∀ k∈TB,k<w.heap.size→(∃ cs fr,w.heap[k]? = some (.cells cs 24 fr))→w'.heap[k]? = w.heap[k]?)
 (h3:∀ (k:Nat) (ms:Array MapEntry) (c:Nat),w.heap[k]? = some (Obj.map ms c)→w'.heap[k]? = w.heap[k]?):PK F n0 b TB X r0 S fv ms mg mn mf pv sv cv rv vs sc w':=by
 have m:∀ {k es},MapS w k es→MapS w' k es:=fun hm=>hm.same (by obtain ⟨ms,c,hb,_⟩:=hm;exact h3 _ _ _ hb)
 refine ⟨(h1 b h.B.lt ⟨⟨_,_,_,h.B,rfl⟩,h.bx⟩).trans h.B,h.hb,Wk h.kF (fun _ h _=>h) (fun k hk _=>hB.block k hk),h.hF,⟨m h.T.hs,m h.T.hg,m h.T.hn,m h.T.hf,fun s hs=>(h.T.hp s hs).same h2⟩,h.L.below hB,
  Zxb h.so fun k hk=>?_,h.sr.same fun i v hv k hk=>?_,h.fl,h.sl,h.ss,Zxb h.co fun k hk=>?_,Zxb h.ro fun k hk=>?_,h.rl,h.tx,fun j hj=>Aoa (h.xl j hj) hz,h.bx,h.sx,h.vx,h.cx,h.rx,h.sz⟩
 obtain ⟨q1,q2⟩:=Uoc h.so rfl h.sx k hk;exact h1 k q1 q2;obtain ⟨l,_,hr⟩:=h.sr.ex hv;obtain ⟨q1,q2⟩:=Uoc hr rfl (h.vx i v hv) k hk;exact h1 k q1 q2;obtain ⟨q1,q2⟩:=Uoc h.co rfl h.cx k hk;exact h1 k q1 q2;obtain ⟨q1,q2⟩:=Uoc h.ro rfl h.rx k hk;exact h1 k q1 q2
theorem PK.grow(h:PK F n0 b TB X r0 S fv ms mg mn mf pv sv cv rv vs sc w)(g:G w w'):PK F n0 b TB X r0 S fv ms mg mn mf pv sv cv rv vs sc w' :=
 h.fr g.size ⟨g.os,g.tape,g.output,g.size,fun k hk=>g.block (Aoa hk h.L.hn)⟩ (fun k hk _=>g.block hk) (fun k _ hk _=>g.block hk) fun k ms c e=>g.block (Axa.1 e).1
theorem PK.keepr(h:PK F n0 b TB X r0 S fv ms mg mn mf pv sv cv rv vs sc w){row:Option Nat}(hg:w.grownBy w' row)(hr:∀ k,row=some k→n0≤k∧(∃ cs e fr,w.heap[k]? = some (.cells cs e fr)∧(typC e=false∨(k∈X∧k∉TB)))):PK F n0 b TB X r0 S fv ms mg mn mf pv sv cv rv vs sc w':=by
 refine h.fr hg.size ⟨hg.os,hg.tape,hg.output,hg.size,fun k hk=>hg.block k (Aoa hk h.L.hn) fun e=>by have:=(hr k e.symm).1;omega⟩ (fun k hk ho=>hg.block k hk fun e=>?_) (fun k hT hk ⟨cs,fr,hc⟩=>hg.block k hk fun e=>?_) fun k ms c hm=>hg.block k (Axa.1 hm).1 fun e=>?_;obtain ⟨_,cs,f,fr,h1,h2⟩:=hr k e.symm;obtain ⟨⟨cs',f',fr',h3,h4⟩,h5⟩:=ho;rcases h2 with h2|h2;rw [h1] at h3;injection h3 with h3;injection h3 with _ h3;subst h3;rw [h2] at h4;cases h4;exact h5 h2.1;obtain ⟨_,cs',f,fr',h1,h2⟩:=hr k e.symm;rcases h2 with h2|h2;rw [hc] at h1;injection h1 with h1;injection h1 with _ h1;subst h1;exact Awa (show true=false from h2);exact h2.2 hT;obtain ⟨_,cs',f,fr',h1,_⟩:=hr k e.symm;rw [hm] at h1;injection h1 with h1;cases h1
theorem PK.keep(h:PK F n0 b TB X r0 S fv ms mg mn mf pv sv cv rv vs sc w){j:Nat}{e:Ba}{l:List Fa}(hg:w.grownBy w' (some j))(hB:Blk w j e l)(hj:n0≤j)(he:typC e=false∨(j∈X∧j∉TB)):PK F n0 b TB X r0 S fv ms mg mn mf pv sv cv rv vs sc w' :=
 h.keepr hg fun k hk=>by injection hk with hk;subst hk;exact ⟨hj,_,_,_,hB,he⟩
theorem PK.addX(h:PK F n0 b TB X r0 S fv ms mg mn mf pv sv cv rv vs sc w){j:Nat}{e:Ba}{l:List Fa}(N:New w w' j e l):PK F n0 b TB (j::X) r0 S fv ms mg mn mf pv sv cv rv vs sc w':=by
 have k:=h.grow N.g
 have hj:∀ {i:Nat},i<w.heap.size→i∉X→i∉j::X:=fun hi hx hm=>by
  rcases Aqa.1 hm with q|q;have:=N.at_;omega;exact hx q
 exact ⟨k.B,k.hb,k.kF,k.hF,k.T,k.L,k.so,k.sr,k.fl,k.sl,k.ss,k.co,k.ro,k.rl,fun i hi=>Aha _ (k.tx i hi),fun i hi=>by
  rcases Aqa.1 hi with q|q;subst q;exact N.blk.lt;exact k.xl i q,hj h.B.lt h.bx,fun i hi=>hj (h.so.lt i hi).2 (h.sx i hi),fun i v hv q hq=>hj (h.sr.lt hv q hq).2 (h.vx i v hv q hq),fun i hi=>hj (h.co.lt i hi).2 (h.cx i hi),fun i hi=>hj (h.ro.lt i hi).2 (h.rx i hi),h.sz⟩
theorem PK.sub(h:PK F n0 b TB X r0 S fv ms mg mn mf pv sv cv rv vs sc w){Y:List Nat}(hT:∀ j∈TB,j∈Y)(hY:∀ j∈Y,j∈X):PK F n0 b TB Y r0 S fv ms mg mn mf pv sv cv rv vs sc w :=
 ⟨h.B,h.hb,h.kF,h.hF,h.T,h.L,h.so,h.sr,h.fl,h.sl,h.ss,h.co,h.ro,h.rl,hT,fun j hj=>h.xl j (hY j hj),fun hm=>h.bx (hY _ hm),fun k hk hm=>h.sx k hk (hY _ hm),fun i v hv k hk hm=>h.vx i v hv k hk (hY _ hm),fun k hk hm=>h.cx k hk (hY _ hm),fun k hk hm=>h.rx k hk (hY _ hm),h.sz⟩
theorem PK.pc(h:PK F n0 b TB X r0 S fv ms mg mn mf pv sv cv rv vs sc w):PC F n0 b TB X r0 S w:=⟨_,_,_,_,_,_,_,_,_,_,_,h⟩
theorem PC.grow(h:PC F n0 b TB X r0 S w)(g:G w w'):PC F n0 b TB X r0 S w':=by obtain ⟨_,_,_,_,_,_,_,_,_,_,_,h⟩:=h;exact (h.grow g).pc
theorem PC.keepr(h:PC F n0 b TB X r0 S w){row:Option Nat}(hg:w.grownBy w' row)(hr:∀ k,row=some k→n0≤k∧(∃ cs e fr,w.heap[k]? = some (.cells cs e fr)∧(typC e=false∨(k∈X∧k∉TB)))):PC F n0 b TB X r0 S w':=by obtain ⟨_,_,_,_,_,_,_,_,_,_,_,h⟩:=h;exact (h.keepr hg hr).pc
theorem PC.keep(h:PC F n0 b TB X r0 S w){j:Nat}{e:Ba}{l:List Fa}(hg:w.grownBy w' (some j))(hB:Blk w j e l)(hj:n0≤j)(he:typC e=false∨(j∈X∧j∉TB)):PC F n0 b TB X r0 S w':=by obtain ⟨_,_,_,_,_,_,_,_,_,_,_,h⟩:=h;exact (h.keep hg hB hj he).pc
theorem PC.addX(h:PC F n0 b TB X r0 S w){j:Nat}{e:Ba}{l:List Fa}(N:New w w' j e l):PC F n0 b TB (j::X) r0 S w':=by obtain ⟨_,_,_,_,_,_,_,_,_,_,_,h⟩:=h;exact (h.addX N).pc
theorem PC.sub(h:PC F n0 b TB X r0 S w){Y:List Nat}(hT:∀ j∈TB,j∈Y)(hY:∀ j∈Y,j∈X):PC F n0 b TB Y r0 S w:=by obtain ⟨_,_,_,_,_,_,_,_,_,_,_,h⟩:=h;exact (h.sub hT hY).pc
theorem PC.lt(h:PC F n0 b TB X r0 S w):n0≤b∧b<w.heap.size:=by obtain ⟨_,_,_,_,_,_,_,_,_,_,_,h⟩:=h;exact ⟨h.hb,h.B.lt⟩
theorem PC.tb(h:PC F n0 b TB X r0 S w):(∀ j∈TB,j∈X)∧∀ j∈X,j<w.heap.size:=by obtain ⟨_,_,_,_,_,_,_,_,_,_,_,h⟩:=h;exact ⟨h.tx,h.xl⟩
theorem PC.laid(h:PC F n0 b TB X r0 S w):LaidW n0 w:=by obtain ⟨_,_,_,_,_,_,_,_,_,_,_,h⟩:=h;exact h.L
theorem PC.nx(h:PC F n0 b TB X r0 S w):b∉X:=by obtain ⟨_,_,_,_,_,_,_,_,_,_,_,h⟩:=h;exact h.bx
theorem PC.scs(h:PC F n0 b TB X r0 S w):Sc S:=by
 obtain ⟨_,_,_,_,_,_,_,_,_,_,scl,h⟩:=h;intro v hv;rw [← h.fl] at hv;obtain ⟨l,hl,hv⟩:=Aya.1 hv;obtain ⟨i,hi,rfl⟩:=Bea hl;have:=h.ss i _ (Aia hi) v hv;have:=h.sl;omega
end
end Go.Rk
namespace Go.Rk
open Go.Proofs
open Go Go.RowKit Go.ChangeShapes
theorem Ucd{H:Type}{enc:Ba×Fa→H}{P:Ea}{w:Aa}{base:Nat}{sp:Nat→Bool}{held:Bool}{fuel:Nat}{t:Ba}{f0 f1:Field}{cs:List Fa}{k:Int}{s:List UInt8}{p:List MemPlace}
 (ht:P.underlying t=some (.struct #[f0,f1])) (h0:P.underlying f0.type=some (.int .i64)) (h1:P.underlying f1.type=some .string) (o0:f0.offset=0) (o1:f1.offset=1) (c0:P.cellsOf f0.type=1) (c1:P.cellsOf f1.type=1) (ct:P.cellsOf t=2)
 (h:DataW.trod enc P w base sp held fuel t cs=some (.agg [.lit (.int .i64 k),.lit (.string s)],p)):cs=[.int .i64 k,Str s]:=by
 obtain ⟨y0,y1,n,hx,hl,ha,hb⟩:=trod_struct2 ht h;rw [ct] at hl;rw [o0,c0,Aza] at ha;rw [o1,c1] at hb;obtain ⟨m,e0,ey0,_⟩:=DataW.trod_int h0 ha;obtain ⟨b,e1,ey1,_⟩:=DataW.trod_string h1 hb;subst ey0 ey1
 match cs,hl with
 | [u,v],_ =>
  have q0:[u]=[Value.int .i64 m]:=e0;have q1:[v]=[Value.string b]:=e1;injection q0 with q0 _;injection q1 with q1 _;rw [q0,q1];clear e0 e1 ha hb h;injection hx with hx _;injection hx with hx;injection hx with h2 h3;injection h3 with h3 _;injection h2 with h2;injection h2 with _ h2;injection h3 with h3;injection h3 with h3;rw [h2,h3]
def Xwg(P:Ea)(t:Ba):Bool:=match P.underlying t with
 | some (.struct fs)=>(match fs.toList with
  | [f0,f1]=>(match P.underlying f0.type with|some (.int .i64)=>true|_=>false)&&((match P.underlying f1.type with|some .string=>true|_=>false)&&(Aca f0.offset 0&&(Aca f1.offset 1&&(Aca (P.cellsOf f0.type) 1&&(Aca (P.cellsOf f1.type) 1&&Aca (P.cellsOf t) 2)))))
  | _=>false)
 | _=>false
theorem Yma{H:Type}{enc:Ba×Fa→H}{P:Ea}{w:Aa}{base:Nat}{sp:Nat→Bool}{held:Bool}{fuel:Nat}{t:Ba}{cs:List Fa}{k:Int}{s:List UInt8}{p:List MemPlace}
 (ht:Xwg P t=true) (h:DataW.trod enc P w base sp held fuel t cs=some (.agg [.lit (.int .i64 k),.lit (.string s)],p)):cs=[.int .i64 k,Str s]:=by
 unfold Xwg at ht;split at ht;rename_i fs hu;split at ht;rename_i f0 f1 hf;simp only [Aga] at ht;obtain ⟨a0,a1,a2,a3,a4,a5,a6⟩:=ht;have hfs:fs = #[f0,f1]:=by rw [← Array.toArray_toList (xs:=fs),hf]
 subst hfs;refine Ucd hu ?_ ?_ (Ara a2) (Ara a3) (Ara a4) (Ara a5) (Ara a6) h;split at a0;assumption;cases a0;split at a1;assumption;cases a1;cases ht;cases ht
end Go.Rk
namespace Go.Rk
open Go.Proofs
open Go Go.RowKit Go.ChangeShapes Go.WideShapes
end Go.Rk
namespace Go.Rk
open Go.Proofs
open Go Go.RowKit Go.ChangeShapes Go.WideShapes Go.ChangeAt
theorem Qcb{H:Type}{enc:Ba×Fa→H}{P:Ea}{w:Aa}{base:Nat}{sp:Nat→Bool}{held:Bool}{fuel:Nat}{t e:Ba}{n:Nat}{cs:List Fa}{ls:List (List UInt8)}{p:List MemPlace}
 (ht:P.underlying t=some (.array n e)) (he:P.underlying e=some .string) (hce:P.cellsOf e=1) (hct:P.cellsOf t=n)
 (h:DataW.trod enc P w base sp held fuel t cs=some (.agg (ls.map fun l=>.lit (.string l)),p)):cs=ls.map Str:=by
 cases fuel with
 | zero=>simp [DataW.trod] at h
 | succ fuel =>
  simp only [DataW.trod,ht,hce,hct,Baa] at h;split at h;rename_i hl;obtain ⟨xs,hm,hx⟩:=Bpa.1 h
  have hxs:xs.map (·.1)=ls.map fun l=>(DataW.lit (.string l):DataW H):=by
   have:=congrArg Prod.fst hx;simpa using this
  have hxl:xs.length=n:=by simpa using Lib.mapM_length hm
  have hzl:ls.length=n:=by
   have:=congrArg List.length hxs;simp at this;omega
  apply List.ext_getElem?;intro i;by_cases hi:i<n;obtain ⟨b,hb,hf⟩:=Lib.mapM_at hm i i (by simp [hi]);obtain ⟨s,hc,rfl,_⟩:=DataW.trod_string he hf
  have h1:cs[i]? = some (.string s):=by
   have:=congrArg (·[0]?) hc;simpa [Asa,List.getElem?_drop] using this
  have h2:(xs.map (·.1))[i]? = some (DataW.lit (.string s.data.toList):DataW H):=by simp [hb]
  rw [hxs] at h2;simp only [List.getElem?_map,Bpa,DataW.lit.injEq,Lit.string.injEq] at h2;obtain ⟨z',hz',e⟩:=h2;rw [h1];simp [hz',e];rw [Bba O,Bba (by simp;omega)];cases h
theorem Uva{P:Ea}{x:String×DataW Unit}{r:List (String×DataW Unit)}{W:Aa}{g:Nat}{t:Ba}(h:laidMet P (x::r) W)(hg:P.globalNamed x.1=some g)(ht:(P.globals[g]?).map (·.type)=some t) :
 ∃ cs fuel p,W.var? P x.1=some cs∧DataW.trod (fun _=>()) P W 0 (fun _=>true) false fuel t cs.toList=some (x.2,p):=by
 obtain ⟨n,d⟩:=x;obtain ⟨ps,⟨g',t',cs,fuel,p,q,hg',ht',hvar,hd,_,_⟩,_⟩:=h;obtain rfl:=Option.some.inj (hg.symm.trans hg');obtain rfl:=Option.some.inj (ht.symm.trans ht');exact ⟨cs,fuel,p,hvar,hd⟩
abbrev laidL:List (String×DataW Unit):=Go.Proofs.YtmpfjifhkmdbaaaGreatDoor.Rows.checkAgainRow.laid
theorem Zoe{W:Aa}(h:laidMetH PP laidL W):Laid W:=by
 have h0:laidMet PP laidL W:=h;obtain ⟨cs,fuel,p,hv,hd⟩:=Uva h0.tail.tail.tail.tail.tail (g:=7) (t:=149) KR KR;have hc:cs.toList=opsL.map Str:=Qcb (n:=27) (e:=9) KR KR KR KR hd;obtain ⟨cs2,fuel2,p2,hv2,hd2⟩:=Uva h0.tail.tail.tail (g:=9) (t:=146) KR KR;obtain ⟨ms,hms⟩:∃ ms,PP.underlying 146=some (.interface ms):=Go.underlying_of_isIface Vad;obtain ⟨f',u,v,hc2,_⟩:=iface_of_trod hms hd2;refine ⟨fun j v hj=>?_,?_⟩;have:=World.var?_cell (by kernel_rfl:PP.globalNamed _=some 7) hv j;rw [Afa,this,← hj,← hc];simp;have:=World.var?_cell (by kernel_rfl:PP.globalNamed _=some 9) hv2 0;refine ⟨.iface u v,?_,.inr ⟨_,_,rfl⟩⟩;rw [this,← Aja,hc2];rfl
theorem Qme{W:Aa}(h:Laid W):10≤W.heap.size:=by
 obtain ⟨ev,h1,_⟩:=h.err;exact Ga W _ h1
theorem Zpe{W:Aa}(h:laidMetH PP laidL W):LaidT W:=by
 have h0:laidMet PP laidL W:=h;obtain ⟨cs,fuel,p,hv,hd⟩:=Uva h0.tail.tail.tail.tail.tail.tail (g:=0) (t:=108) KR KR;have hc:cs.toList=typTexts.map Str:=Qcb (n:=13) (e:=9) KR KR KR KR hd;intro j v hj;have:=World.var?_cell (by kernel_rfl:PP.globalNamed _=some 0) hv j;rw [Afa,this,← hj,← hc];simp
theorem Zqe{W:Aa}(h:laidMetH PP laidL W):Xrf W:=by
 have h0:laidMet PP laidL W:=h;obtain ⟨cs0,fuel0,p0,hv0,hd0⟩:=Uva h0.tail.tail.tail.tail.tail.tail.tail (g:=2) (t:=24) KR KR;have hc0:=Yma KR hd0;obtain ⟨cs1,fuel1,p1,hv1,hd1⟩:=Uva h0.tail.tail.tail.tail.tail.tail.tail.tail (g:=3) (t:=24) KR KR;have hc1:=Yma KR hd1;obtain ⟨cs2,fuel2,p2,hv2,hd2⟩:=Uva h0.tail.tail.tail.tail.tail.tail.tail.tail.tail (g:=4) (t:=24) KR KR;have hc2:=Yma KR hd2;obtain ⟨cs3,fuel3,p3,hv3,hd3⟩:=Uva h0.tail.tail.tail.tail.tail.tail.tail.tail.tail.tail (g:=6) (t:=24) KR KR;have hc3:=Yma KR hd3;obtain ⟨cs4,fuel4,p4,hv4,hd4⟩:=Uva h0.tail.tail.tail.tail.tail.tail.tail.tail.tail.tail.tail (g:=1) (t:=24) KR KR;have hc4:=Yma KR hd4;obtain ⟨cs5,fuel5,p5,hv5,hd5⟩:=Uva h0.tail.tail.tail.tail.tail.tail.tail.tail.tail.tail.tail.tail (g:=5) (t:=24) KR KR;have hc5:=Yma KR hd5
 exact ⟨(fun j v hj=>by
  have:=World.var?_cell (by kernel_rfl:PP.globalNamed _=some 2) hv0 j;rw [Afa,this,← Aja,hc0];exact hj),(fun j v hj=>by
  have:=World.var?_cell (by kernel_rfl:PP.globalNamed _=some 3) hv1 j;rw [Afa,this,← Aja,hc1];exact hj),(fun j v hj=>by
  have:=World.var?_cell (by kernel_rfl:PP.globalNamed _=some 4) hv2 j;rw [Afa,this,← Aja,hc2];exact hj),(fun j v hj=>by
  have:=World.var?_cell (by kernel_rfl:PP.globalNamed _=some 6) hv3 j;rw [Afa,this,← Aja,hc3];exact hj),(fun j v hj=>by
  have:=World.var?_cell (by kernel_rfl:PP.globalNamed _=some 1) hv4 j;rw [Afa,this,← Aja,hc4];exact hj),(fun j v hj=>by
  have:=World.var?_cell (by kernel_rfl:PP.globalNamed _=some 5) hv5 j;rw [Afa,this,← Aja,hc5];exact hj)⟩
end Go.Rk
namespace Go.Proofs.YtmpfjifhkmdbaaaGreatDoor
open Go Go.RowKit Go.ChangeShapes Go.WideShapes Go.ChangeAt Go.Rk
theorem own:ownKnob Tryz.prog.godebug=none:=KR
def cellOf:DataW Unit→Fa
 | .lit (.int k z)=>.int k z
 | .lit (.string s)=>.string ⟨s.toArray⟩
 | _=>.nilIface
def cellsOf:DataW Unit→Array Fa
 | .agg l=>(l.map cellOf).toArray
 | _=>#[]
def Xsf:DataW Unit→Fa
 | .iface _ (.ptr (.agg [d]))=>cellOf d
 | _=>.nilIface
def put(h:Array Obj)(g:Nat)(cs:Array Fa):Array Obj:=h.modify g fun
 | .cells _ t frozen=>.cells cs t frozen
 | o=>o
noncomputable def laidWorld(os:Os):Aa :=
 let N:=(World.settled Tryz.prog os).heap.size
 let w0:=World.holding Tryz.prog os ⟨#[.cells #[Xsf Rows.laid_strconv_ErrSyntax] 167,.cells #[Xsf Rows.laid_strconv_ErrRange] 167],#[],[]⟩
 let h0:=put w0.heap 0 (cellsOf Rows.laid_interleave_types_texts)
 let h1:=put h0 1 (cellsOf Rows.laid_interleave_check_tChan)
 let h2:=put h1 2 (cellsOf Rows.laid_interleave_check_tInt)
 let h3:=put h2 3 (cellsOf Rows.laid_interleave_check_tBool)
 let h4:=put h3 4 (cellsOf Rows.laid_interleave_check_tNil)
 let h5:=put h4 5 (cellsOf Rows.laid_interleave_check_tFunc)
 let h6:=put h5 6 (cellsOf Rows.laid_interleave_check_tSlice)
 let h7:=put h6 7 (cellsOf Rows.laid_interleave_scan_operators)
 let h8:=put h7 8 #[.iface 165 (.pointer (some ⟨N,0,none⟩))]
 let h9:=put h8 9 #[.iface 165 (.pointer (some ⟨N+1,0,none⟩))]
 let h10:=put h9 10 (cellsOf Rows.laid_internal_strconv_uint64pow10)
 let h11:=put h10 11 (cellsOf Rows.laid_math_bits_deBruijn32tab)
 let h12:=put h11 12 (cellsOf Rows.laid_math_bits_deBruijn64tab)
 { w0 with heap:=h12 }
end Go.Proofs.YtmpfjifhkmdbaaaGreatDoor
namespace Go.Rk
open Go.Proofs
open Go Go.RowKit
def rng(z:Int):Prop := -9223372036854775808≤z∧z≤9223372036854775807
def okNd(t:Nd):Prop:=para (fun t l=>rng t.kind∧rng t.num∧rng t.pos∧rng t.ty.kind∧rng t.ref∧rng t.up∧∀ p∈l,p) t
theorem Zog(t:Nd):okNd t=(rng t.kind∧rng t.num∧rng t.pos∧rng t.ty.kind∧rng t.ref∧rng t.up∧∀ p∈t.kids.map okNd,p):=Zca _ t
def weight(t:Nd):Nat:=para (fun t l=>1+t.text.length+l.sum) t
theorem Jzc(t:Nd):weight t=1+t.text.length+(t.kids.map weight).sum:=Zca _ t
theorem Wmc:∀ t,count t≤weight t:=by
 refine Nd.ind fun t ih=>?_
 have:∀ (l:List Nd),(∀ k∈l,count k≤weight k)→(l.map count).sum≤(l.map weight).sum:=by
  intro l
  induction l with
  | nil=>intro _;simp
  | cons a l ihl=>intro h;have:=h a List.mem_cons_self;have:=ihl fun k hk=>h k (Aha _ hk);simp;omega
 rw [Qm,Jzc];have:=this t.kids ih;omega
end Go.Rk
namespace Go.Rk
open Go.Proofs
open Go Go.RowKit Go.ChangeShapes Go.WideShapes
abbrev bulk{H:Type}:DataW H→Nat:=Go.Proofs.YtmpfjifhkmdbaaaGreatDoor.Rows.uptoBulk
abbrev bulkAll{H:Type}:List (DataW H)→Nat:=Go.Proofs.YtmpfjifhkmdbaaaGreatDoor.Rows.uptoBulkAll
theorem Wwb{H:Type}:∀ (l:List (DataW H)) (d:DataW H),d∈l→bulk d≤bulkAll l
 | [],d,h=>by cases h
 | x::l,d,h=>by
  simp only [bulk,bulkAll,Go.Proofs.YtmpfjifhkmdbaaaGreatDoor.Rows.uptoBulkAll];rcases Aqa.1 h with rfl|h;omega;have:=Wwb l d h;simp only [bulk,bulkAll] at this;omega
theorem Wxb{H:Type}:∀ (l m:List (DataW H)),bulkAll (l++m)=bulkAll l+bulkAll m
 | [],m=>by simp [bulkAll,Go.Proofs.YtmpfjifhkmdbaaaGreatDoor.Rows.uptoBulkAll]
 | x::l,m=>by
  have:=Wxb l m;simp only [bulkAll,List.cons_append,Go.Proofs.YtmpfjifhkmdbaaaGreatDoor.Rows.uptoBulkAll] at this ⊢;omega
theorem Vsb:PP.underlying 3=some (.int .i64):=KR
theorem Upc:PP.underlying 9=some .string:=KR
theorem Xve:PP.cellsOf 3=1:=KR
theorem Uqc:PP.cellsOf 9=1:=KR
noncomputable def fieldsOf'(t:Ba):Option (List (Nat×Nat)):=match PP.underlying t with|some (.struct fs)=>some (fs.toList.map fun f=>(f.type,f.offset))|_=>none
theorem Udd{t:Ba}{L:List (Nat×Nat)}(hL:fieldsOf' t=some L):∃ fs,PP.underlying t=some (.struct fs):=by
 unfold fieldsOf' at hL;split at hL;rename_i fs hfs;exact ⟨fs,hfs⟩;cases hL
theorem len2{α:Type}{l:List α}(h:l.length=2):∃ a b,l=[a,b]:=by
 match l,h with
 | [a,b],_=>exact ⟨a,b,rfl⟩
theorem len8{α:Type}{l:List α}(h:l.length=8):∃ a b c d e f g i,l=[a,b,c,d,e,f,g,i]:=by
 match l,h with
 | [a,b,c,d,e,f,g,i],_=>exact ⟨a,b,c,d,e,f,g,i,rfl⟩
theorem len9{α:Type}{l:List α}(h:l.length=9):∃ a b c d e f g i j,l=[a,b,c,d,e,f,g,i,j]:=by
 match l,h with
 | [a,b,c,d,e,f,g,i,j],_=>exact ⟨a,b,c,d,e,f,g,i,j,rfl⟩
section
variable {H:Type} {enc:Ba×Fa→H} {w:Aa} {base:Nat} {sp:Nat→Bool} {held:Bool}
theorem Wyb{t:Ba}{L:List (Nat×Nat)}(hL:fieldsOf' t=some L){fuel:Nat}{cs:List Fa}{x:DataW H×List MemPlace}(h:DataW.trod enc PP w base sp held fuel t cs=some x) :
 ∃ (xs:List (DataW H×List MemPlace)) (n:Nat),x=(.agg (xs.map (·.1)),xs.flatMap (·.2))∧cs.length=PP.cellsOf t∧xs.length=L.length∧
 ∀ (i ty o:Nat),L[i]? = some (ty,o)→DataW.trod enc PP w base sp held n ty ((cs.drop o).take (PP.cellsOf ty))=xs[i]?:=by
 unfold fieldsOf' at hL;split at hL;rename_i fs hfs;injection hL with hL;obtain ⟨xs,n,rfl,rfl,hl,hxl,hx⟩:=DataW.trod_struct hfs h;refine ⟨xs,n,rfl,hl,by rw [← hL,hxl];simp,fun i ty o hi=>?_⟩;rw [← hL,List.getElem?_map] at hi
 cases hq:fs.toList[i]? with
 | none=>rw [hq] at hi;cases hi
 | some f =>
  rw [hq] at hi;simp only [Option.map_some,Option.some.injEq,Prod.mk.injEq] at hi;obtain ⟨rfl,rfl⟩:=hi;exact hx i f (by rw [← Aja];exact hq)
 cases hL
theorem Xac{z:Int}(h:(Lit.int .i64 z).wf=true):rng z:=by
 simp only [Lit.wf,Aga,Zah] at h;exact h
theorem Qne:fieldsOf' 24=some [(3,0),(9,1)]:=KR
theorem Xtf:PP.cellsOf 24=2:=KR
theorem Xuf{fuel:Nat}{cs:List Fa}{x:DataW H×List MemPlace}(h:DataW.trod enc PP w base sp held fuel 24 cs=some x):∃ y:Ty,cs=tyCells y∧rng y.kind∧y.name.length+1≤bulk x.1:=by
 obtain ⟨xs,n,rfl,hl,hxl,hx⟩:=Wyb Qne h;rw [Xtf] at hl;have h0:=hx 0 _ _ rfl;have h1:=hx 1 _ _ rfl;rw [Xve] at h0;rw [Uqc] at h1;obtain ⟨v0,v1,rfl⟩:=len2 hl;obtain ⟨y0,y1,rfl⟩:=len2 hxl;skip;simp only [Aza,Bqa,List.take_zero,Bra,Bsa,Bta] at h0 h1;obtain ⟨z0,c0,rfl,w0⟩:=DataW.trod_int Vsb h0;obtain ⟨s1,c1,rfl,_⟩:=DataW.trod_string Upc h1;injection c0 with c0 _;injection c1 with c1 _;subst c0 c1;refine ⟨⟨z0,s1.data.toList⟩,rfl,Xac w0,?_⟩;simp [bulk,Go.Proofs.YtmpfjifhkmdbaaaGreatDoor.Rows.uptoBulk,Go.Proofs.YtmpfjifhkmdbaaaGreatDoor.Rows.uptoBulkAll];omega
theorem Xbc:fieldsOf' 26=some [(3,0),(9,1),(3,2),(3,3),(22,4),(24,5),(3,7),(3,8)]:=KR
theorem Xvf:PP.cellsOf 26=9:=KR
theorem Zpg:PP.cellsOf 22=1:=KR
theorem Zqg:PP.underlying 22=some (.slice 26):=KR
theorem Zad{w:Aa}{b:Nat}{D:Nat→Prop}:∀ (l:List Nd) (o:Nat),(∀ i,(h:i<l.length)→∃ v,RowAt w b (o+i*9) (ndCells l[i] v)∧Kd w D l[i].kids v)→∃ xs,RowAt w b o xs∧KRow w D l xs
 | [],o,_=>⟨[],fun j v hj=>by simp at hj,rfl⟩
 | t::l,o,h=>by
  obtain ⟨v0,h0,k0⟩:=h 0 Os
  obtain ⟨xs,ih,kx⟩:=Zad l (o+9) (fun i hi=>by
   obtain ⟨v,h1,h2⟩:=h (i+1) (by simpa using hi);rw [show o+(i+1)*9=o+9+i*9 by omega] at h1;exact ⟨v,by simpa using h1,by simpa using h2⟩)
  refine ⟨ndCells t v0++xs,fun j v hj=>?_,Qe (by simpa using k0) kx⟩;by_cases hj9:j<9;rw [Bfa (by simpa [ndCells] using hj9)] at hj;exact h0 j v (by simpa using hj);rw [Bga (by simp [ndCells];omega)] at hj;have:=ih (j-9) v (by simpa [ndCells] using hj);rw [show o+9+(j-9)=o+j by omega] at this;exact this
theorem Zrg:∀ (N fuel:Nat) (cs:List Fa) (x:DataW H×List MemPlace),bulk x.1≤N→DataW.trod enc PP w base sp held fuel 26 cs=some x→
    ∃ (t : Nd) (v : Fa), cs = ndCells t v ∧ Kd w (fun _ => True) t.kids v ∧ okNd t ∧ weight t ≤ bulk x.1 := by
  intro N
  induction N with
  | zero =>
    intro fuel cs x hb h
    obtain ⟨xs, n, rfl, _⟩ := Wyb Xbc h
    simp [bulk, Go.Proofs.YtmpfjifhkmdbaaaGreatDoor.Rows.uptoBulk] at hb
  | succ N ih =>
    intro fuel cs x hb h
    obtain ⟨xs, n, rfl, hl, hxl, hx⟩ := Wyb Xbc h
    rw [Xvf] at hl
    have h0 := hx 0 _ _ rfl
    have h1 := hx 1 _ _ rfl
    have h2 := hx 2 _ _ rfl
    have h3 := hx 3 _ _ rfl
    have h4 := hx 4 _ _ rfl
    have h5 := hx 5 _ _ rfl
    have h6 := hx 6 _ _ rfl
    have h7 := hx 7 _ _ rfl
    rw [Xve] at h0 h2 h3 h6 h7
    rw [Uqc] at h1
    rw [Zpg] at h4
    rw [Xtf] at h5
    obtain ⟨v0, v1, v2, v3, v4, v5, v5', v6, v7, rfl⟩ := len9 hl
    obtain ⟨y0, y1, y2, y3, y4, y5, y6, y7, rfl⟩ := len8 hxl
    · skip
      simp only [Aza, Bqa, List.take_zero, Bra, Bsa, Bta] at h0 h1 h2 h3 h4 h5 h6 h7
      obtain ⟨z0, c0, rfl, w0⟩ := DataW.trod_int Vsb h0
      obtain ⟨s1, c1, rfl, _⟩ := DataW.trod_string Upc h1
      obtain ⟨z2, c2, rfl, w2⟩ := DataW.trod_int Vsb h2
      obtain ⟨z3, c3, rfl, w3⟩ := DataW.trod_int Vsb h3
      obtain ⟨z6, c6, rfl, w6⟩ := DataW.trod_int Vsb h6
      obtain ⟨z7, c7, rfl, w7⟩ := DataW.trod_int Vsb h7
      obtain ⟨y, cy, wy, _⟩ := Xuf h5
      injection c0 with c0 _; injection c1 with c1 _; injection c2 with c2 _; injection c3 with c3 _; injection c6 with c6 _; injection c7 with c7 _
      simp only [tyCells, List.cons.injEq, and_true] at cy
      obtain ⟨cy1, cy2⟩ := cy
      subst c0 c1 c2 c3 c6 c7 cy1 cy2
      have hb4 : bulk y4.1 ≤ N := by
        simp only [bulk, Go.Proofs.YtmpfjifhkmdbaaaGreatDoor.Rows.uptoBulk, Go.Proofs.YtmpfjifhkmdbaaaGreatDoor.Rows.uptoBulkAll, Bha, Bia] at hb ⊢; omega
      have done : ∀ (ks : List Nd), Kd w (fun _ => True) ks v4 → (∀ k ∈ ks, okNd k) → (ks.map weight).sum ≤ bulk y4.1 →
          ∃ (t : Nd) (v : Fa), [Value.int .i64 z0, .string s1, .int .i64 z2, .int .i64 z3, v4, .int .i64 y.kind, Str y.name, .int .i64 z6, .int .i64 z7] = ndCells t v ∧ Kd w (fun _ => True) t.kids v ∧ okNd t ∧ weight t ≤ bulk (DataW.agg (List.map (·.1) [((.lit (.int .i64 z0) : DataW H), ([] : List MemPlace)), (.lit (.string s1.data.toList), []), (.lit (.int .i64 z2), []), (.lit (.int .i64 z3), []), y4, y5, (.lit (.int .i64 z6), []), (.lit (.int .i64 z7), [])])) := by
        intro ks hk hok hc
        refine ⟨.mk z0 s1.data.toList z2 z3 ks y z6 z7, v4, rfl, hk, ?_, ?_⟩
        · rw [Zog]
          refine ⟨Xac w0, Xac w2, Xac w3, wy, Xac w6, Xac w7, fun p hp => ?_⟩
          obtain ⟨k, hk1, rfl⟩ := List.mem_map.1 hp
          exact hok k hk1
        · rw [Jzc]
          simp only [bulk, Go.Proofs.YtmpfjifhkmdbaaaGreatDoor.Rows.uptoBulk, Go.Proofs.YtmpfjifhkmdbaaaGreatDoor.Rows.uptoBulkAll, Bha, Bia] at hc ⊢
          show 1 + s1.data.toList.length + (ks.map weight).sum ≤ _
          omega
      rcases Go.Deep.open_slice Zqg h4 with ⟨e4, rfl⟩ | ⟨a, len, cap, m, n', D, Pl, e4, hba, hlc, hcm, hmm, rfl, hxs⟩
      · injection e4 with e4 _
        subst e4
        exact done [] (Vsc w _) (fun k hk => by cases hk) (Apa _)
      · injection e4 with e4 _
        subst e4
        have hlm : len ≤ m := by rw [hmm]; split <;> omega
        rw [Xvf] at hxs
        have hle : bulkAll ((Ala len).map D) + 1 ≤ bulk (DataW.slice ((Ala len).map D) ((Ala (m - len)).map fun j => D (len + j))) := by
          simp only [bulk, bulkAll, Go.Proofs.YtmpfjifhkmdbaaaGreatDoor.Rows.uptoBulk]; omega
        have build : ∀ k, k ≤ len → ∃ l : List Nd, l.length = k ∧ (∀ i, (h : i < l.length) → ∃ v, w.cells? base (a.add (i * 9)) 9 = some (ndCells l[i] v) ∧ Kd w (fun _ => True) l[i].kids v) ∧ (∀ t ∈ l, okNd t) ∧ (l.map weight).sum ≤ bulkAll ((Ala k).map D) := by
          intro k
          induction k with
          | zero => intro _; exact ⟨[], rfl, fun i hi => by simp at hi, fun t ht => (by cases ht), Apa _⟩
          | succ k ihk =>
            intro hk
            obtain ⟨l, hl1, hl2, hl3, hl4⟩ := ihk (by omega)
            obtain ⟨cs', q1, q2⟩ := hxs k (by omega)
            have hbk : bulk (D k) ≤ N := by
              have := Wwb ((Ala len).map D) (D k) (List.mem_map_of_mem (List.mem_range.2 (by omega)))
              simp only [] at hb4; omega
            obtain ⟨t, v, rfl, kt, ot, ct⟩ := ih n' cs' _ hbk q2
            refine ⟨l ++ [t], by simp [hl1], fun i hi => ?_, fun u hu => ?_, ?_⟩
            · by_cases hik : i < l.length
              · obtain ⟨v', e1, e2⟩ := hl2 i hik
                rw [List.getElem_append_left hik]; exact ⟨v', e1, e2⟩
              · have hi' : i = l.length := by simp at hi; omega
                subst hi'
                rw [List.getElem_append_right (Aaa _)]
                simp only [Nat.sub_self, List.getElem_cons_zero]
                exact ⟨v, by rw [hl1]; exact q1, kt⟩
            · rcases Bca.1 hu with hu | hu
              · exact hl3 u hu
              · rw [Ata.1 hu]; exact ot
            · rw [List.range_succ, Bda, Bda, List.sum_append, Wxb]
              have : bulkAll (List.map D [k]) = bulk (D k) := by simp [bulkAll, bulk, Go.Proofs.YtmpfjifhkmdbaaaGreatDoor.Rows.uptoBulkAll]
              rw [this]; simp only [Bha, Bia, List.sum_cons, List.sum_nil]; simp only [] at ct; omega
        obtain ⟨l, hl1, hl2, hl3, hl4⟩ := build len (Aaa _)
        refine done l ⟨some a, cap, by rw [hl1], by rw [hl1]; exact hlc, fun hpos => ?_⟩ hl3 (by simp only [] at hl4 hle ⊢; omega)
        obtain ⟨v0, h0, _⟩ := hl2 0 hpos
        obtain ⟨_, _, hc0⟩ := World.cells?_some h0
        have hc := hc0 0 (by omega)
        have hsp : a.spot = none := by
          cases hq : a.spot with
          | none => rfl
          | some y =>
            have : w.cell? ((a.add (0 * 9)).add 0) = none := by
              unfold World.cell?
              split
              · simp [Addr.add, hq]
              · rfl
            rw [this] at hc; simp [ndCells] at hc
        have ha : a = ⟨a.block, a.off, none⟩ := by cases a; simp only at hsp; rw [hsp]
        obtain ⟨xs', r1, r2⟩ := Zad (w := w) (b := a.block) (D := fun _ => True) l a.off (fun i hi => by
          obtain ⟨v, e1, e2⟩ := hl2 i hi
          refine ⟨v, ?_, e2⟩
          obtain ⟨_, _, hci⟩ := World.cells?_some e1
          intro j u hj
          have hj9 : j < 9 := by have := (List.getElem?_eq_some_iff.mp hj).1; simpa [ndCells] using this
          have := hci j hj9
          rw [hj] at this
          rw [← this]
          congr 1
          rw [ha, Addr.add_lit, Addr.add_lit])
        exact ⟨a.block, a.off, by rw [ha], trivial, xs', r1, r2⟩
theorem Zre{r:Reach}{b0:Nat}{v:Fa}{d:DataW H}{p:List MemPlace}(hv:Value.okWide PP w r b0 26 v)(h:DataW.Trod enc PP w base sp held 26 v d p):∃ (t:Nd) (u:Fa),v=ndV t u∧Kd w (fun _=>True) t.kids u∧okNd t∧weight t≤bulk d:=by
 obtain ⟨fs,hfs⟩:=Udd Xbc;obtain ⟨cs,rfl,_⟩:=okWide_struct hfs hv;obtain ⟨fuel,hf⟩:=h;obtain ⟨t,u,ht,h1,h2,h3⟩:=Zrg _ fuel _ _ (Aaa _) hf;refine ⟨t,u,?_,h1,h2,h3⟩;show Value.agg cs=Value.agg (ndCells t u).toArray;rw [← ht];simp [Value.cells]
theorem Qoe{r:Reach}{b0:Nat}{v:Fa}{d:DataW H}{p:List MemPlace}(hv:Value.okWide PP w r b0 26 v)(h:DataW.Trod enc PP w base sp held 26 v d p):∃ (t:Nd) (u:Fa),v=ndV t u∧Kd w (fun _=>True) t.kids u∧okNd t∧count t≤bulk d:=by
 obtain ⟨t,u,h1,h2,h3,h4⟩:=Zre hv h;exact ⟨t,u,h1,h2,h3,Aea (Wmc t) h4⟩
end
end Go.Rk
namespace Go.Rk
open Go.Proofs
open Go Go.RowKit
def failE(a e:Int):Da:=⟨.iface 48 (.agg #[.int .i64 a,.int .i64 e]),false,false⟩
theorem Xwf(a e:Int)(w:Aa):RetP PP 59 #[.int .i64 a,.int .i64 e] w (fun _ _=>False) (fun ch w'=>ch=[failE a e]∧G w w'):=by
 have g:=G.refl w;refine Vd (m:=8) Tryz.func59 J J [(0,True,_),(1,True,_)] (Zb J (Zb J (Zq _))) ?_;refine Qzc (k:=4) [3,3,3,3,2] J J J ?_;refine Zu J (Zu J (Vzb Zjb Zkb (pqc J (pqc J pq0)) J J (Zz J (fun _=>Zaf Job (Zc J)) (Ze (Quf (Zc J) ?_)))));exact ⟨rfl,g⟩
theorem Wy(q:Bool)(a e:Int)(w:Aa):RetP PP 32 #[.bool q,.int .i64 a,.int .i64 e] w (fun r w'=>r = .tuple #[]∧q=true∧G w w') (fun ch w'=>q=false∧ch=[failE a e]∧G w w'):=by
 have g:=G.refl w;refine Vd (m:=11) Tryz.func32 J J [(0,True,_),(1,True,_),(2,True,_)] (Zb J (Zb J (Zb J (Zq _)))) ?_;refine Zk (Zn (Zu J (Wxg J (Ze (kq (Um J (fun h1=>?_) (fun h1=>?_)))))));replace h1:q=false:=by cases q;rfl;cases h1
 refine Zn (Zu J (Zu J (?_)));exact Zpb rfl (Zy Qwc Wz (aqc rfl (aqc rfl aq0)) rfl) (Xwf a e _) ((fun ch w' hz=>⟨h1,hz.1,g.trans hz.2⟩)) (fun _ _ h=>h.elim);replace h1:q=true:=by cases q;cases h1;rfl
 refine Yu (Ypa J ?_);exact ⟨rfl,h1,g⟩
theorem Jr(t:Nd)(p:Option Addr)(c:Nat)(w:Aa):Ret PP 30 #[ndV t (.slice p t.kids.length c)] w fun r w'=>r=ndV (clnT t) (.slice none 0 0)∧G w w':=by
 have g:=G.refl w;refine Ul (m:=23) Tryz.func30 J J [(0,True,_)] (Zb J (Zq _)) ?_;refine Zk (Zn (Zqa J (Zc J) J ?_));intro b1 w1 N1;have l1:=N1.ge g;have g:=g.trans N1.g;have E:=(Qs _).new N1;refine Yt J Zp J ?_;intro b2 w2 N2;have l2:=N2.ge g;have g:=g.trans N2.g;replace E:=E.new N2;refine Ze (kq (Zk (Zn (Xa Xd J (Xn Yf J (E.g1.at_ J) (Xa Xt J (Xn Xc J (E.g1.at_ J) (Xa Xp J (Xn Yf J (E.g1.at_ J) (Vzb Zp Jka (pqc J (pqc J (pqc J pq0))) J J (Yt J Zp J ?_)))))))))));intro b3 w3 N3;have l3:=N3.ge g;have g:=g.trans N3.g;replace E:=E.new N3;refine Zra Yk J J J E.g0 ?_;intro wS1 hgS1 _ BS;replace E:=E.s0 hgS1 BS;have g:=Yq g hgS1 O;refine Ze (kq (Zk (Zk (Zn (Xa Xd J (Xn Yf J (E.g2.at_ J) (Yjb J J (Zu J (Zv J J J (fun _=>Zh Xd (Zc J)) (Wb J J J (Zt Yf (Yc J id) (fun _=>E.g2.at_ J)) (Zv J J J (fun _=>Wna (Yc J id) Xv) (Zz J (fun _=>Xo (Zc J) (Yc J id)) (Ze (kq (Um J (fun h1=>?_) (fun h1=>?_))))))))))))))));have e:numS t=t.num:=by unfold numS Wj;rw [show (decide (t.kind=24) || decide (t.kind=25))=true from h1];rfl
 refine Zn (Xa Ux J (Xn Yf J (E.g2.at_ J) (Xa Ux J (Xxb Vca J J J E.g0 ?_))));intro wS2 hgS2 _ BS;replace E:=E.s0 hgS2 BS;have g:=Yq g hgS2 O;refine Ze (kq (Zk (Zn (Va Zf J J E.g0.row (Zra Yk J J J E.g1 ?_)))));intro wS3 hgS3 _ BS;replace E:=E.s1 hgS3 BS;have g:=Yq g hgS3 O;refine Ze (kq (We (Yya J (Yoa J Zf J (E.g1.row) (Uc)) ?_)));refine ⟨?_,g⟩;unfold clnT;rw [e];rfl;have e:numS t=0:=by unfold numS Wj;rw [show (decide (t.kind=24) || decide (t.kind=25))=false from h1];rfl
 refine Yu (kq (Zk (Zn (Va Zf J J E.g0.row (Zra Yk J J J E.g1 ?_)))));intro wS4 hgS4 _ BS;replace E:=E.s1 hgS4 BS;have g:=Yq g hgS4 O;refine Ze (kq (We (Yya J (Yoa J Zf J (E.g1.row) (Uc)) ?_)));refine ⟨?_,g⟩;unfold clnT;rw [e];rfl
theorem Qpe:∀ (t:Nd) (v:Fa) (D:Nat→Prop) (w:Aa),Kd w D t.kids v→count t≤1000000→Ret PP 53 #[ndV t v] w fun r w'=>RetN (plainT t) w.heap.size r w'∧G w w':=by
 refine Nd.ind fun t ih v D w hk hc=>?_;have hlen:=Wu t;obtain ⟨p,c,rfl,hcap,hks⟩:=hk;have g:=G.refl w;refine Ul (m:=24) Tryz.func53 J J [(0,True,_)] (Zb J (Zq _)) ?_;refine Zk (Zn (Zqa J (Zc J) J ?_));intro b1 w1 N1;have l1:=N1.ge g;have g:=g.trans N1.g;have E:=(Qs _).new N1;refine Yt J Zp J ?_;intro b2 w2 N2;have l2:=N2.ge g;have g:=g.trans N2.g;replace E:=E.new N2;refine Ze (kq (Zk (Zn (Va Zf J J E.g1.row (Xe J (Zy Jya Wz (aqc J aq0) J) (Jr t _ _ _) ?_)))));rintro v7 w7 ⟨rfl,g7⟩;refine ⟨fun _=>g7,?_⟩;have g:=g.trans g7;replace E:=E.grow g7;refine Yt J Zp J ?_;intro b3 w3 N3;have l3:=N3.ge g;have g:=g.trans N3.g;replace E:=E.new N3;refine Zra Yk J J J E.g0 ?_;intro wS1 hgS1 _ BS;replace E:=E.s0 hgS1 BS;have g:=Yq g hgS1 O;refine Ze (kq (Zk (Zk (Zn (?_)))));rw [show ndCells (clnT t) (.slice none 0 0)=ndCells (plainT t) (.slice none 0 0) by rw [Vqd];rfl] at E;refine Xa Zg J (Xn Zi J (E.g2.at_ J) (Xva Zd J (Zu J (Ze (kq (Yw (?_)))))));have hnd1:=E.1;refine Qa (fun (i:Nat) u1=>(i≤t.kids.length∧∃ s,Blk u1 b3 26 (ndCells (plainT t) s)∧OwnN [b1,b2,b3] w.heap.size u1 ((t.kids.take i).map plainT) s)∧G w u1) _ [(2,True,_),(3,True,_),(9,True,_),(10,True,_)] (fun (i:Nat)=>[(11,True,.int .i64 i)]) (fun (i:Nat)=>t.kids.length-i) (0) ⟨⟨Apa _,_,E.g0,Yxa _ _ _⟩,g⟩ (Zx (blkE E.g2) (Zx (blkE E.g1) (Wa _))) (Zb J (Zb J (Zb J (Zb J (Zb J (Zq _)))))) ?_;clear E;rintro i u1 ⟨hI1,gl1⟩ ⟨B1,B2,_⟩;replace B1:Blk _ _ _ _:=B1;replace B2:Blk _ _ _ _:=B2;have g:=gl1;obtain ⟨hi,s,B3,hO⟩:=hI1;obtain ⟨sa,sc,rfl⟩:=hO.slice;have E:=Vwa (L:=[(b3,_,_),(b2,_,_),(b1,_,_)]) hnd1 ⟨B3,B2,B1,trivial⟩ rfl
 refine Zk (Zn (Ykb J J (Ze (kq (Zk (Um J (fun h1=>?_) (fun h1=>?_)))))));replace h2:i<t.kids.length:=by simp only [Zah] at h1;omega
 obtain ⟨b,o,rfl,hD,xs,hR,hX⟩:=hks O;obtain ⟨p',c',hcell,hkid⟩:=Uyb hR hX h2;have hck:=Zpa h2;have hkl:=Wu t.kids[i];have hu:=g.size;refine Yu (kq (Zk (Yw (Zk (Zn (Jhb Zd J J O (Va Zf J J (hcell.grow g) (Yt J Zp J ?_))))))));intro b5 w5 N5;have l5:=N5.ge g;have hO:=hO.new N5;have g:=g.trans N5.g;replace E:=E.new N5;refine Zra Yk J J J E.g0 ?_;intro wS2 hgS2 _ BS;replace E:=E.s0 hgS2 BS;have g:=Yq g hgS2 O;have hO:=hO.keep hgS2 Os;refine Ze (kq (Xg [3,0,0,1,1,2,3,2] [true,true,true,true,true,true,true,true] [0,1,0,4,12,31,63,127] mix KR ?_));have g:=gdr g;replace E:=E.dr;have hO:=hO.grow (G.drew _);obtain ⟨z5,hz5⟩:∃ z,(wS2.drew).heap.size=z:=⟨_,rfl⟩;have hB1lt:=E.g3.lt;have hB2lt:=E.g2.lt;have hB3lt:=E.g1.lt;have hB5lt:=E.g0.lt;have hOlt:=hO.lt;refine Xa Zg J (Xn Zi J (E.g1.at_ J) (Va Zf J J E.g0.row (Xe J (Zy Xzb Wz (aqc J aq0) J) (ih _ (List.getElem_mem h2) _ _ _ (hkid.grow g) O) ?_)));rintro v18 w18 ⟨⟨p2,c2,rfl,hk2⟩,g18⟩;refine ⟨fun _=>g18,?_⟩;have g:=g.trans g18;have hk2:=KdN.low (lo':=z5) hk2 (Nat.le_of_eq hz5.symm);replace E:=E.grow g18;have hO:=hO.grow (g18);refine Ya _ J Zd Zp (pqc J pq0) J J ?_;intro b19 w19 N19;have l19:=N19.ge g;have hO:=hO.new N19;have g:=g.trans N19.g;replace E:=E.new N19;have hk2:=hk2.grow N19.g;have hO:=hO.sub (Y:=[b1,b2,b3]) Oj;have hOo:=hO
 refine Wia J Zd Zp J (Zc J) hO (Zc J) J E.g0.row (Ve (Kd.mono hk2 fun k hk _=>⟨⟨⟨by have:=hk.1;omega,by have:=hk.1;simp;omega⟩,hk.2⟩,fun he=>by have:=hOlt k he.symm;have:=hk.1;omega⟩)) (by simp;omega) (by have:=g.size;omega) ⟨by have:=g.size;omega,by have q1:=E.g4.lt;have q2:=E.g3.lt;have q3:=E.g2.lt;simp;omega⟩ ?_;intro a20 c20 w20 hO hg20;replace E:=E.sel [false,false,true,true,true];replace E:=E.keepX hg20 hOo.ne Ob;have g:=Yaa g hg20 (fun k hk=>hOo.ge k hk);refine Xa Zg J (Xxb Vi J J J E.g0 ?_);intro wS3 hgS3 _ BS;replace E:=E.s0 hgS3 BS;have g:=Yq g hgS3 O;have hO:=hO.keep hgS3 Os;refine Ze (kq (Zn (Zeb J J O (Zu J (Vh [(11,_,_),(2,_,_),(3,_,_),(9,_,_),(10,_,_)] (Zb J (Zb J (Zb J (Zb J (Zb J (Zq _)))))) (Ze (fun a ha=>?_)))))));exact ⟨i+1,ha,⟨⟨h2,_,E.g0,by rw [Ytc h2,Bda];exact hO.sub Oj⟩,g⟩,(Zx (blkE E.g2) (Zx (blkE E.g1) (Wa _))),O⟩;replace h2:i=t.kids.length:=by simp only [Zbh] at h1;omega
 subst h2;rw [List.take_length] at hO E;refine Xka J (kq (Zk (Zn (Va Zf J J E.g0.row (Zra Yk J J J E.g1 ?_)))));intro wS4 hgS4 _ BS;replace E:=E.s1 hgS4 BS;have g:=Yq g hgS4 O;have hO:=hO.keep hgS4 Os;refine Ze (kq (We (Yya J (Yoa J Zf J (E.g1.row) (Uc)) ?_)));exact ⟨Xld (by rw [Ja];exact hO.kd),g⟩
theorem Vtb(t:Nd)(p:Option Addr)(c:Nat)(w:Aa)(hL:Laid w)(hb3:10≤w.heap.size)(hTx:LaidT w)(hlen:t.kids.length≤1000000):Ret PP 51 #[ndV t (.slice p t.kids.length c)] w fun r w'=>r=tyV (ofF t).1∧G w w':=by
 have g:=G.refl w;refine Ul (m:=11) Tryz.func51 J J [(0,True,_)] (Zb J (Zq _)) ?_;refine Zk (Zn (Zqa J (Zc J) J ?_));intro b1 w1 N1;have l1:=N1.ge g;have g:=g.trans N1.g;have E:=(Qs _).new N1;refine Yt J Yz J ?_;intro b2 w2 N2;have l2:=N2.ge g;have g:=g.trans N2.g;replace E:=E.new N2;refine Ze (kq (Zk (Zn (Va Zf J J E.g1.row (Xe J (Zy Xvc Wz (aqc J aq0) J) (Ybf t _ _ _ (hL.grow g) (by have:=g.size;omega) (hTx.grow g) hlen) ?_)))));rintro v7 w7 ⟨rfl,g7⟩;refine ⟨fun _=>g7,?_⟩;have g:=g.trans g7;replace E:=E.grow g7;refine Zu J (Ju J J (Ju J J (Yt J Yz J ?_)));intro b3 w3 N3;have l3:=N3.ge g;have g:=g.trans N3.g;replace E:=E.new N3;refine Zra Xk J J J E.g0 ?_;intro wS1 hgS1 _ BS;replace E:=E.s0 hgS1 BS;have g:=Yq g hgS1 O;refine Xf J (Ze (kq (Zk (Zn (Va Zj J J E.g0.row (Zra Xk J J J E.g1 ?_))))));intro wS2 hgS2 _ BS;replace E:=E.s1 hgS2 BS;have g:=Yq g hgS2 O;refine Ze (kq (We (Yya J (Yoa J Zj J (E.g1.row) (Uc)) ?_)));exact ⟨rfl,g⟩
/-! what a panic leaves -/
def Alive(b L:Nat)(w:Aa):Prop:=∃ F fv ms mg mn mf a n c cv rv,Blk w b 59 (pcCells F fv ms mg mn mf (.slice a n c) cv rv)∧L≤n∧n≤c∧n≤2000000
def Bad(n0 b:Nat)(X:List Nat)(L:Nat)(T:CSt)(w:Aa)(ch:List Da)(w':Aa):Prop:=ch=[failE T.ea T.ee]∧T.ee≠0∧Alive b L w'∧GT (mutC X) n0 w w'
section
variable {F:Nd} {n0 b:Nat} {TB X:List Nat} {r0:Option (List Ty)} {S:CSt} {w w':Aa}
theorem Alive.grow{L:Nat}(h:Alive b L w)(g:G w w'):Alive b L w':=by
 obtain ⟨F,fv,ms,mg,mn,mf,a,n,c,cv,rv,hB,h1⟩:=h;exact ⟨F,fv,ms,mg,mn,mf,a,n,c,cv,rv,hB.grow g,h1⟩
theorem PC.alive(h:PC F n0 b TB X r0 S w):Alive b (S.scope+1) w:=by
 obtain ⟨fv,ms,mg,mn,mf,pv,sv,cv,rv,vs,sc,h⟩:=h;obtain ⟨a,c,rfl,hc⟩:=Zya h.so;exact ⟨F,fv,ms,mg,mn,mf,a,_,c,cv,rv,h.B,by rw [h.sr.len,h.sl];exact Aaa _,hc,by rw [h.sr.len];exact h.sz⟩
theorem Wja(he:S.ee=0)(a e:Int):failU false a e S = { S with ea:=a,ee:=e }:=by
 show failS a e S=_;unfold failS;rw [Jyg he];rfl
theorem Un{T:CSt}{q:Bool}{a e:Int}{ch:List Da}{w0 w1:Aa}{L:Nat}(h:PC F n0 b TB X r0 S w)(he:S.ee=0)(hn:e≠0)(hE:Er (failU q a e S) T)(hz:q=false∧ch=[failE a e]∧G w w1)(g:GT (mutC X) n0 w0 w)(hL:L≤S.scope+1):Bad n0 b X L T w0 ch w1:=by
 obtain ⟨rfl,rfl,g1⟩:=hz;rw [Wja he] at hE;obtain ⟨h2,h1⟩:=hE hn;refine ⟨by rw [h1,h2],by rw [h2];exact hn,?_,gtg g g1⟩;obtain ⟨F,fv,ms,mg,mn,mf,a,n,c,cv,rv,hB,h3,h4⟩:=h.alive.grow g1;exact ⟨F,fv,ms,mg,mn,mf,a,n,c,cv,rv,hB,Aea hL h3,h4⟩
theorem Bad.pass{T U:CSt}{X':List Nat}{L L':Nat}{ch:List Da}{w0:Aa}(h:Bad n0 b X' L' T w ch w')(hE:Er T U)(hL:L≤L')(g:GT (mutC X) n0 w0 w)(hX:∀ j∈X,j∈X':=by intro j hj;simp [hj]):Bad n0 b X L U w0 ch w':=by
 obtain ⟨h1,h2,⟨F,fv,ms,mg,mn,mf,a,n,c,cv,rv,hB,h3,h4⟩,h5⟩:=h;obtain ⟨e1,e2⟩:=hE h2;exact ⟨by rw [h1,e1,e2],by rw [e1];exact h2,⟨F,fv,ms,mg,mn,mf,a,n,c,cv,rv,hB,Aea hL h3,h4⟩,gtw g h5 hX⟩
end
theorem Ued(F:Nd)(s:List UInt8):(lookS (numK 2 (fun _ _=>Value.bool true) F.kids 0) s).getD (.bool false) = .bool (!decide ((findD F 2 s).2<0)):=by
 rw [Zvb];unfold findD;rcases Ulc 2 s F.kids 0 with h|h;rw [h];rfl;have h:0≤(findK 2 s F.kids 0).2:=h;rw [Jyg h,Jxg (Int.not_lt.2 h)];rfl
theorem Vsa:PP.underlying 9=some .string:=KR
theorem Ufd:PP.underlying 51=some (.map 9 4):=KR
theorem Xxf:PP.underlying 52=some (.map 9 24):=KR
theorem Xxg:PP.underlying 53=some (.map 9 3):=KR
theorem Xwe:PP.underlying 54=some (.map 9 61):=KR
theorem Xcc{n:Nat}{σ:List Ent}{c:Prop}{wb:Aa}{ty b:Nat}{x y:Operand}{F:Nd}{s:List UInt8}(h:MapS wb b (numK 2 (fun _ _=>Value.bool true) F.kids 0))(hx:Ev n σ c x (.map (some b)))(hy:Ev n σ c y (Str s)) :
 Rd PP n σ c wb (.lookup 51 x y false) ty (.bool (!decide ((findD F 2 s).2<0))):=by
 rw [← Ued F s];exact Ujc Vsa Ufd Yad h hx hy
theorem Qh(F n:Nd)(S:CSt):pointerS F n S=failU (!decide (n.kind=8) || !decide ((findD F 2 n.text).2<0)) n.pos 5 S:=by
 unfold pointerS;cases decide (n.kind=8) <;> rfl
theorem Ugd{F:Nd}{n0 b:Nat}{TB X:List Nat}{r0:Option (List Ty)}{S:CSt}{w:Aa}(t:Nd)(p:Option Addr)(c:Nat)(h:PC F n0 b TB X r0 S w):RetP PP 52 #[.pointer (some ⟨b,0,none⟩),ndV t (.slice p t.kids.length c)] w (fun r w'=>r = .tuple #[]∧(!decide (t.kind=8) || !decide ((findD F 2 t.text).2<0))=true∧G w w') (fun ch w'=>(!decide (t.kind=8) || !decide ((findD F 2 t.text).2<0))=false∧ch=[failE t.pos 5]∧G w w'):=by
 obtain ⟨fv,ms,mg,mn,mf,pv,sv,cv,rv,vs,sc,h⟩:=h;have g:=G.refl w;refine Vd (m:=19) Tryz.func52 J J [(0,True,_),(1,True,_)] (Zb J (Zb J (Zq _))) ?_;refine Zk (Zn (Zqa J (Zc J) J ?_));intro b3 w3 N3;have l3:=N3.ge g;have g:=g.trans N3.g;have E:=(Qs _).new N3;refine Ze (kq (Yx (rowR none) [3,0,3,3,3,3,3,0,3,0,0,3,3,0,1] [0,1,3,7,15,31,63,127,15,271,1023,2047,0,4096,16383] mix KR [0,1,2,3,4,5,6,7,8,9,10,11,12,13,14] J ?_));have g:=gdr g;replace E:=E.dr;refine Zr 0 J J (fun _=>Zh Xd (Zc J)) (Yg 1 J J (fun w1 hx=>Zt Yf (Zc J) (fun _=>(E.g0.keep hx (fun h=>nomatch h)).at_ J)) (Zr 2 J J (fun _=>Woa (Zc J) Xv) (Zr 3 J J (fun _=>Zw (Zc J)) (Yqa (L':=[5,6,7,8,9,10,11,12,13,14]) 4 J J J J J (fun _=>Zw (Zc J)) (Yqa (L':=[6,7,8,9,10,11,12,13,14]) 5 J J J J J (fun _=>Zxa (Yc J id)) (Yqa (L':=[7,8,9,10,11,12,13,14]) 6 J J J J J (fun _=>Zh Jy (Yc J id)) (Vba (L':=[8,9,10,11,12,13,14]) 7 J J J J J (fun w1 hx=>Zt Je (Yc J id) (fun _=>((h.B.grow g).keep hx (fun h=>nomatch h)).at_ J)) (Yqa (L':=[9,10,11,12,13,14]) 8 J J J J J (fun _=>Zh Xt (Zc J)) (Vba (L':=[10,11,12,13,14]) 9 J J J J J (fun w1 hx=>Zt Xc (Yc J id) (fun _=>(E.g0.keep hx (fun h=>nomatch h)).at_ J)) (Vba (L':=[11,12,13,14]) 10 J J J J J (fun w1 hx=>Xcc ((h.T.hs.grow g).keep hx (fun h=>nomatch h)) (Yc J id) (Yc J id)) (Zr 11 J J (fun _=>Xo (Zc J) (Yc J id)) (Zr 12 J J (fun _=>Zh Xp (Zc J)) (Yg 13 J J (fun w1 hx=>Zt Yf (Zc J) (fun _=>(E.g0.keep hx (fun h=>nomatch h)).at_ J)) (Zm 14 J J ?_))))))))))))));refine Zl (L':=[]) [3,0,3,3,3,3,3,0,3,0,0,3,3,0,1] J J J ?_
 refine Zpb J (Zy Yd Wz (aqc J (aqc J (aqc J aq0))) J) (Wy _ _ _ _) ((fun ch w' hz=>⟨hz.1,hz.2.1,g.trans hz.2.2⟩)) ?_;rintro v18 w18 ⟨rfl,hq,g18⟩;refine ⟨fun _=>g18,?_⟩;have g:=g.trans g18;replace E:=E.grow g18;refine Zs ((g18).only _) ?_;refine Vaa [] (Zq _) (Jl (Ypa J ?_));exact ⟨rfl,hq,g⟩
theorem Xdc{F:Nd}{n0 b:Nat}{TB X:List Nat}{r0:Option (List Ty)}{S:CSt}{w:Aa}(t:Nd)(p:Option Addr)(c:Nat)(h:PC F n0 b TB X r0 S w)(he:S.ee=0)(hl:t.kids.length≤1000000):RetP PP 55 #[.pointer (some ⟨b,0,none⟩),ndV t (.slice p t.kids.length c)] w (fun r w'=>r=tyV (ofF t).1∧localS F t S=S∧G w w') (Bad n0 b X (S.scope+1) (localS F t S) w):=by
 have g:=G.refl w;refine Vd (m:=17) Tryz.func55 J J [(0,True,_),(1,True,_)] (Zb J (Zb J (Zq _))) ?_;refine Zk (Zn (Zqa J (Zc J) J ?_));intro b3 w3 N3;have l3:=N3.ge g;have g:=g.trans N3.g;have E:=(Qs _).new N3;refine Yt J Yz J ?_;intro b4 w4 N4;have l4:=N4.ge g;have g:=g.trans N4.g;replace E:=E.new N4;refine Ze (kq (Zk (Zn (Zu J (Va Zf J J E.g1.row (Zpb J (Zy Qy Wz (aqc J (aqc J aq0)) J) (Ugd t _ _ (h.grow g)) ((fun ch w' hz=>Un (h.grow g) he Od (by unfold localS;rw [Qh];exact (Er.refl _).failu _ _ _) hz (GT.of_g g) (Aaa _))) ?_))))));rintro v8 w8 ⟨rfl,hq,g8⟩;refine ⟨fun _=>g8,?_⟩;have g:=g.trans g8;replace E:=E.grow g8;refine Ze (kq (Zk (Zn (Va Zf J J E.g1.row (Xe J (Zy Zzd Wz (aqc J aq0) J) (Vtb t _ _ _ ((h.grow g).laid).hL ((h.grow g).laid).hb ((h.grow g).laid).hT hl) ?_)))));rintro v10 w10 ⟨rfl,g10⟩;refine ⟨fun _=>g10,?_⟩;have g:=g.trans g10;replace E:=E.grow g10;refine Yt J Yz J ?_;intro b5 w5 N5;have l5:=N5.ge g;have g:=g.trans N5.g;replace E:=E.new N5;refine Zra Xk J J J E.g0 ?_;intro wS1 hgS1 _ BS;replace E:=E.s0 hgS1 BS;have g:=Yq g hgS1 O;refine Ze (kq (Zk (Yx (rowR none) [0,1,3,0,1] [0,1,0,4,15] mix KR [0,1,2,3,4] J ?_)));have g:=gdr g;replace E:=E.dr;refine Yg 0 J J (fun w1 hx=>Zo Zj (Zc J) J (fun _=>(E.g0.keep hx (fun h=>nomatch h)).row)) (Zr 2 J J (fun _=>Zh Xp (Zc J)) (Yg 3 J J (fun w1 hx=>Zt Yf (Zc J) (fun _=>(E.g2.keep hx (fun h=>nomatch h)).at_ J)) (Zm 1 J J ?_)));refine Zl (L':=[4]) [0,1,3,0,1] J J J ?_;refine Xe J (Zy Wab Wz (aqc J aq0) J) (Wfa (ofF t).1 _ ((h.grow g).laid).hL ((h.grow g).laid).hb) ?_;rintro v12 w12 ⟨rfl,g12⟩;refine ⟨fun _=>g12,?_⟩;have g:=g.trans g12;replace E:=E.grow g12;refine Zs ((g12).only _) ?_
 refine Zm 4 J J ?_;refine Zl (L':=[]) [0,1,3,0,1] J J J ?_;refine Zpb J (Zy Yd Wz (aqc J (aqc J (aqc J aq0))) J) (Wy _ _ _ _) ((fun ch w' hz=>Un (h.grow g) he Od (by unfold localS;rw [Qh,hq];exact Er.refl _) hz (GT.of_g g) (Aaa _))) ?_;rintro v15 w15 ⟨rfl,hq2,g15⟩;refine ⟨fun _=>g15,?_⟩;have g:=g.trans g15;replace E:=E.grow g15;refine Zs ((g15).only _) ?_;refine Vaa [(4,_,_),(5,_,_)] (Zb J (Zb J (Zq _))) (Jl (kq (Zk (Zn (Va Zj J J E.g0.row (Zra Xk J J J E.g1 ?_))))));intro wS2 hgS2 _ BS;replace E:=E.s1 hgS2 BS;have g:=Yq g hgS2 O;refine Ze (kq (We (Yya J (Yoa J Zj J (E.g1.row) (Uc)) ?_)));refine ⟨rfl,?_,g⟩;unfold localS;rw [Qh,hq,hq2];rfl
section
variable {F:Nd} {n0 b:Nat} {TB X:List Nat} {r0:Option (List Ty)} {S:CSt} {fv:Fa} {ms mg mn mf:Nat} {pv:Nat→Fa} {sv cv rv:Fa} {vs:List Fa} {sc:List (List Vr)} {w w' w1 w2:Aa}
theorem Xxe{e k:Nat}(he:typC e=true)(hx:k∉X):mutC X e k=true:=by
 unfold mutC;rw [he,Jxg hx];rfl
theorem Zgc{e:Ba}{z m:Nat}{v:Fa}{xs:List Fa}(hO:w.ownsRow n0 e z v m xs)(he:typC e=true)(hx:∀ k,v.ownBlock=some k→k∉X)(hg:w.grownBy w' v.ownBlock):GT (mutC X) n0 w w' :=
 ⟨hg.os,hg.tape,hg.output,hg.size,fun k hk hb=>hg.block k hk fun e'=>by
 obtain ⟨_,⟨cs,f,fr,h1,h2⟩,h3⟩:=Uoc hO he hx k e'.symm;rcases hb with hb|hb;have:=(hO.lt k e'.symm).1;omega;exact hb ⟨cs,f,fr,h1,Xxe h2 h3⟩⟩
theorem Uda{e:Ba}{l:List Fa}(hB:Blk w b e l)(he:typC e=true)(hb:n0≤b)(hx:b∉X)(hg:w.grownBy w' (some b)):GT (mutC X) n0 w w' :=
 ⟨hg.os,hg.tape,hg.output,hg.size,fun k hk hq=>hg.block k hk fun e'=>by
 injection e' with e';subst e';rcases hq with hq|hq;omega;exact hq ⟨_,_,_,hB,Xxe he hx⟩⟩
theorem Zhc{e e':Ba}{z m:Nat}{v:Fa}{xs:List Fa}(h:w.ownsRow n0 e z v m xs)(he:Aca e e'=false):∀ k,v.ownBlock=some k→¬ TyR (fun x _=>Aca x e') w k:=fun k hk ⟨cs,f,fr,h1,h2⟩=>by
 rcases h.2 with ⟨q,_⟩|⟨g,cap,cur,q,_,h3,_⟩;rw [q] at hk;cases hk;rw [q] at hk;have:g=k:=by injection hk
 subst this;rw [h1] at h3;injection h3 with h3;injection h3 with _ h3;subst h3;have h2:Aca _ e'=true:=h2;rw [he] at h2;cases h2
theorem PK.tabs(h:PK F n0 b TB X r0 S fv ms mg mn mf pv sv cv rv vs sc w)(g:GT (mutC X) n0 w w'):Kd w' (fun k=>k<n0) F.kids fv∧Tab F TB ms mg mn mf pv w'∧LaidW n0 w'∧∀ j∈X,j<w'.heap.size:=by
 have hB:Below n0 w w':=⟨g.os,g.tape,g.output,g.size,fun k hk=>g.block k (Aoa hk h.L.hn) (.inl hk)⟩
 have m:∀ {k es},MapS w k es→MapS w' k es:=fun hm=>hm.same (g.block _ hm.lt (.inr fun ⟨cs,e,fr,h1,_⟩=>by
  obtain ⟨ms,c,hb,_⟩:=hm;rw [hb] at h1;injection h1 with h1;cases h1))
 refine ⟨Wk h.kF (fun _ h _=>h) (fun k hk _=>hB.block k hk),⟨m h.T.hs,m h.T.hg,m h.T.hn,m h.T.hf,fun s hs=>(h.T.hp s hs).same fun k hk hlt _=>g.block k hlt (.inr fun ⟨cs,e,fr,h1,h2⟩=>?_)⟩,h.L.below hB,fun j hj=>Aoa (h.xl j hj) g.size⟩;unfold mutC at h2;rw [Jyg (h.tx k hk)] at h2;simp at h2
theorem PK.scp(h:PK F n0 b TB X r0 S fv ms mg mn mf pv sv cv rv vs sc w){sv':Fa}{vs':List Fa}{sc':List (List Vr)}{S':CSt}(hg:w.grownBy w1 sv.ownBlock)(ho:w1.ownsRow n0 82 1 sv' vs'.length vs')
 (hat:∀ k,sv'.ownBlock=some k→sv.ownBlock=some k∨w.heap.size≤k) (hg2:w1.grownBy w2 (some b)) (hB2:Blk w2 b 59 (pcCells F fv ms mg mn mf sv' cv rv)) (hsr:ScR 84 n0 w vs' sc')
 (hvx:∀ (i:Nat) (v:Fa),vs'[i]? = some v→∀ k,v.ownBlock=some k→k∉X) (fl:sc'.flatten=S'.vars) (sl:sc'.length=S'.scope+1) (ss:∀ (i:Nat) (l:List Vr),sc'[i]? = some l→∀ v∈l,v.scope=i)
 (hl:S'.level=S.level) (hn:S'.next=S.next) (hr:S'.result=S.result) (hz:sc'.length≤2000000):PK F n0 b TB X r0 S' fv ms mg mn mf pv sv' cv rv vs' sc' w2∧GT (mutC X) n0 w w2:=by
 have B1:Blk w1 b 59 _:=h.B.keep hg (fun e=>Xy h.so h.B rfl e.symm);have g1:=Zgc h.so rfl h.sx hg;have g2:GT (mutC X) n0 w1 w2:=Uda B1 rfl h.hb h.bx hg2;have G:=g1.trans g2;obtain ⟨t1,t2,t3,t4⟩:=h.tabs G;refine ⟨⟨hB2,h.hb,t1,h.hF,t2,t3,Yi ho hg2 (.inr (Xy ho B1 J)),(hsr.keep hg (Zhc h.so J)).keep hg2 (fun k hk=>by injection hk with hk;subst hk;exact Wub (M:=fun x _=>Aca x 84) B1 J),fl,sl,ss,?_,?_,by rw [hl];exact h.rl,h.tx,t4,h.bx,fun k hk=>?_,hvx,h.cx,h.rx,hz⟩,G⟩;have k:=Yi h.co hg (Ysa h.co h.so rfl);rw [hl,hn];exact Yi k hg2 (.inr (Xy k B1 rfl));have k:=Yi h.ro hg (Ysa h.ro h.so rfl);rw [hr];exact Yi k hg2 (.inr (Xy k B1 rfl));rcases hat k hk with q|q;exact h.sx k q;intro hm;have:=h.xl k hm;omega
end
theorem Urc{F:Nd}{n0 b:Nat}{TB X:List Nat}{r0:Option (List Ty)}{S:CSt}{w:Aa}(h:PC F n0 b TB X r0 S w)(hs:S.scope≤1000000):Ret PP 54 #[.pointer (some ⟨b,0,none⟩)] w fun r w'=>r = .tuple #[]∧PC F n0 b TB X r0 (openS S) w'∧GT (mutC X) n0 w w':=by
 obtain ⟨fv,ms,mg,mn,mf,pv,sv,cv,rv,vs,sc,h⟩:=h;have hln:=h.sr.len;have hsl:=h.sl;have hnn:=h.L.hn;have g:=GT.refl (mutC X) n0 w;refine Ul (m:=11) Tryz.func54 J J [(0,True,_)] (Zb J (Zq _)) ?_;refine Zn (Zu J (Zu J (Vx J (Xa Yv J (Xn Yl J (h.B.at_ J) (CM fun _ _ N7 _ g E=>?_))))));have h:=h.grow (N7.g);refine Ur J Yp Yca J Od (Zc J) h.so (Zc J) J N7.blk.row J (by simp only [maxLen];omega) O (by have:=g.size;omega) ?_;intro a8 c8 w8 ho8 hg8 hat8;have B8:Blk w8 b 59 _:=h.B.keep hg8 (fun e=>Xy h.so h.B rfl e.symm);replace E:=Qs w8;refine AU ?_;refine Xi J Vf (Zc J) (Zc J) J B8 J J ?_;intro w11 hg11 hz11 B11
 obtain ⟨k11,g11⟩:=h.scp (vs':=vs++[.slice none 0 0]) (sc':=sc++[[]]) (S':=openS S) hg8 (by rw [Ada];exact ho8) (fun k hk=>hat8.imp (fun q=>q.symm.trans hk) fun q=>by rw [hk] at q;injection q with q;omega) hg11 B11 h.sr.push (fun i v hv k hk=>by
  rcases Nat.lt_or_ge i vs.length with q|q;rw [Bfa q] at hv;exact h.vx i v hv k hk;rw [Bga q] at hv;rcases Bua (i-vs.length) with z|z;rw [z] at hv;injection hv with hv;subst hv;cases hk;rw [Bba (by show 1≤_;omega)] at hv;cases hv) (by rw [Bva];show sc.flatten++[]=_;rw [List.append_nil];exact h.fl) (by rw [Ada];show sc.length+1=S.scope+1+1;omega) (fun i l hi v hv=>by
  rcases Nat.lt_or_ge i sc.length with q|q;rw [Bfa q] at hi;exact h.ss i l hi v hv;rw [Bga q] at hi;rcases Bua (i-sc.length) with z|z;rw [z] at hi;injection hi with hi;subst hi;cases hv;rw [Bba (by show 1≤_;omega)] at hi;cases hi) rfl rfl rfl (by rw [Ada];show sc.length+1≤_;omega)
 have g:=g.trans g11;refine Ze (Ypa J ?_);exact ⟨rfl,k11.pc,g⟩
theorem Qqe{sc:List (List Vr)}{n:Nat}(hl:sc.length=n+1)(hs:∀ (i:Nat) (l:List Vr),sc[i]? = some l→∀ v∈l,v.scope=i):dropV n sc.flatten=(sc.take n).flatten:=by
 have e:sc=sc.take n++[sc[n]'O]:=by
  conv=>lhs;rw [← Bwa n sc,Bja O]
  rw [Aua O]
 have e2:sc.flatten=(sc.take n).flatten++sc[n]'O:=by
  conv=>lhs;rw [e]
  rw [Bva];simp
 rw [e2];refine Jvc (fun v hv=>hs n _ (Aia O) v hv) fun v hv=>?_;obtain ⟨l,hl2,hv⟩:=Aya.1 hv;obtain ⟨i,hi,rfl⟩:=Bea hl2;rw [Ava] at hi;have:=hs i _ (Aia O) v (by rw [List.getElem_take] at hv;exact hv);omega
theorem Vub{F:Nd}{n0 b:Nat}{TB X:List Nat}{r0:Option (List Ty)}{S:CSt}{w:Aa}(h:PC F n0 b TB X r0 S w)(hs1:1≤S.scope)(hs:S.scope≤1000000):RetB PP 142 #[.pointer (some ⟨b,0,none⟩)] w fun r w'=>r = .tuple #[]∧PC F n0 b TB X r0 (shutS S) w'∧GT (mutC X) n0 w w':=by
  obtain ⟨fv, ms, mg, mn, mf, pv, sv, cv, rv, vs, sc, h⟩ := h
  have hln := h.sr.len
  have hsl := h.sl
  have hnn := h.L.hn
  obtain ⟨pa, pc, rfl, hc⟩ := Zya h.so
  have g := GT.refl (mutC X) n0 w
  refine Vnc (m := 16) Tryz.func142 J J [(0, True, _)] (Zb J (Zq _)) ?_
  refine Xg [3, 3, 3, 3, 0, 3, 3, 3, 0, 3, 3, 3, 3, 3, 2] [true, true, true, true, true, true, true, true, true, true, true, true, true, true, true] [0, 0, 2, 6, 14, 0, 32, 96, 224, 480, 992, 2046, 4095, 8191, 16383] mix (by kernel_rfl) ?_
  have g := gtd g
  have h := h.grow (G.drew _)
  refine Zu J (Zu J (Vx J (Xa Yv J (Xn Yl J (h.B.at_ J) (Zu J (Vx J (Xa Yv J (Xn Yl J (h.B.at_ J) (Xva Yp J (Zz J (fun _ => Xia (Zc J) Xv (fun _ => by omega)) (Zz J (fun _ => Jeb Yp (Zc J) (Zc J) (fun _ => by omega)) (Vx J (Xa Yv J (Xi J Vf (Zc J) (Zc J) J h.B J J ?_))))))))))))))
  intro w16 hg16 hz16 B16
  have e : ((vs.length : Int) - 1).toNat = vs.length - 1 := by omega
  rw [e] at B16
  have el : (vs.take (vs.length - 1)).length = vs.length - 1 := by rw [Ava]; omega
  obtain ⟨k16, g16⟩ := h.scp (sv' := .slice pa (vs.length - 1) pc) (vs' := vs.take (vs.length - 1)) (sc' := sc.take S.scope) (S' := shutS S) (Zje _ _) (by rw [el]; have := Xmd h.so (j := vs.length - 1) (by omega); rwa [Baa] at this) (fun k hk => .inl (by cases pa <;> exact hk)) hg16 B16 (by rw [show vs.length - 1 = S.scope by omega]; exact h.sr.pop S.scope) (fun i v hv k hk => by
    rw [Asa] at hv
    split at hv
    · exact h.vx i v hv k hk
    · cases hv) (by show _ = dropV S.scope S.vars; rw [← h.fl]; exact (Qqe hsl h.ss).symm) (by rw [Ava]; show _ = S.scope - 1 + 1; omega) (fun i l hi v hv => by
    rw [Asa] at hi
    split at hi
    · exact h.ss i l hi v hv
    · cases hi) rfl rfl rfl (by rw [Ava]; have := h.sz; omega)
  have g := g.trans g16
  refine Ze (Ypa J ?_)
  exact ⟨rfl, k16.pc, g⟩
theorem Xyf{F:Nd}{n0 b:Nat}{TB X:List Nat}{r0:Option (List Ty)}{S:CSt}{w:Aa}(h:PC F n0 b TB X r0 S w)(hs1:1≤S.scope)(hs:S.scope≤1000000):Ret PP 142 #[.pointer (some ⟨b,0,none⟩)] w fun r w'=>r = .tuple #[]∧PC F n0 b TB X r0 (shutS S) w'∧GT (mutC X) n0 w w':=(Vub h hs1 hs).ret
theorem Xzf{b L:Nat}{w:Aa}(h:Alive b (L+1) w):RetB PP 142 #[.pointer (some ⟨b,0,none⟩)] w fun r w'=>r = .tuple #[]∧Alive b L w'∧w.grownBy w' (some b):=by
 obtain ⟨F,fv,ms,mg,mn,mf,a,n,c,cv,rv,hB,h1,h2,h3⟩:=h;have g:=G.refl w;refine Vnc (m:=16) Tryz.func142 J J [(0,True,_)] (Zb J (Zq _)) ?_;refine Xg [3,3,3,3,0,3,3,3,0,3,3,3,3,3,2] [true,true,true,true,true,true,true,true,true,true,true,true,true,true,true] [0,0,2,6,14,0,32,96,224,480,992,2046,4095,8191,16383] mix KR ?_;have g:=gdr g;have hB:=hB.grow (G.drew _);refine Zu J (Zu J (Vx J (Xa Yv J (Xn Yl J (hB.at_ J) (Zu J (Vx J (Xa Yv J (Xn Yl J (hB.at_ J) (Xva Yp J (Zz J (fun _=>Xia (Zc J) Xv (fun _=>O)) (Zz J (fun _=>Jeb Yp (Zc J) (Zc J) (fun _=>O)) (Vx J (Xa Yv J (Xi J Vf (Zc J) (Zc J) J hB J J ?_))))))))))))));intro w16 hg16 hz16 B16;rw [show ((n:Int)-1).toNat=n-1 by omega] at B16;have hg:=Jwa (g.only (some b)) hg16;refine Ze (Ypa J ?_);exact ⟨rfl,⟨F,fv,ms,mg,mn,mf,a,n-1,c,cv,rv,B16,O,O,O⟩,hg⟩
theorem Xqd{n0:Nat}{e:Ba}{w:Aa}{sv:Fa}{vs:List Fa}(h:w.ownsRow n0 e 1 sv vs.length vs):∃ p c,sv = .slice p vs.length c∧vs.length≤c∧∀ (i:Nat) (v:Fa),vs[i]? = some v→p=some ⟨pb p,po p,none⟩∧w.cell? ⟨pb p,po p+i*1,none⟩=some v:=by
 obtain ⟨p,c,hv,hc⟩:=Zya h;refine ⟨p,c,hv,hc,fun i v hi=>?_⟩;have hlt:=(List.getElem?_eq_some_iff.1 hi).1;obtain ⟨g,c',hv',_,hR,_⟩:=Jja h O;rw [hv] at hv';injection hv' with e1 _ _;subst e1;refine ⟨rfl,?_⟩;have:=hR i v hi;rw [Baa];exact this
theorem Usc{n0:Nat}{e:Ba}{w:Aa}{sv:Fa}{l:List Vr}(h:w.ownsRow n0 e 5 sv l.length (l.flatMap pvCells)):∃ p c,sv = .slice p l.length c∧l.length≤c∧∀ i,(hi:i<l.length)→p=some ⟨pb p,po p,none⟩∧RowAt w (pb p) (po p+i*5) (pvCells l[i]):=by
 obtain ⟨p,c,hv,hc⟩:=Zya h;refine ⟨p,c,hv,hc,fun i hi=>?_⟩;obtain ⟨g,c',hv',_,hR,_⟩:=Jja h O;rw [hv] at hv';injection hv' with e1 _ _;subst e1;exact ⟨rfl,Zcc Unc hR hi⟩
def fndV(o:Option Vr):Fa:=.tuple #[.agg (pvCells (o.getD vr0)).toArray,.bool o.isSome]
theorem Utc{F:Nd}{n0 b:Nat}{TB X:List Nat}{r0:Option (List Ty)}{S:CSt}{w:Aa}{N:Nat}(h:PC F n0 b TB X r0 S w)(hb:Bd S N)(hN:N≤1000000)(s:List UInt8):Ret PP 157 #[.pointer (some ⟨b,0,none⟩),Str s] w fun r w'=>r=fndV (findV S.vars s)∧G w w':=by
 obtain ⟨fv,ms,mg,mn,mf,pv,sv,cv,rv,vs,sc,h⟩:=h;have hln:=h.sr.len;have hsl:=h.sl;have hsc:=hb.sc;have hfl:=h.fl;have hvl:=hb.vl;obtain ⟨pa,pc,rfl,hc,hat⟩:=Xqd h.so;have g:=G.refl w;rw [← hfl];refine Ul (m:=55) Tryz.func157 J J [(0,True,_),(1,True,_)] (Zb J (Zb J (Zq _))) ?_;refine Zk (Zn (AM fun _ w4 _ _ g E=>?_));refine Xf rfl (Ze (kq (Zk (Zk (Zn (Zu rfl (Vx rfl (Xa Yv rfl (Xn Yl rfl ((h.B.grow g).at_ rfl) (Xva Yp rfl (Zz rfl (fun _=>Xia (Zc rfl) Xv (fun _=>O)) (Xf rfl (Ze (kq (Yw (Qk (fun (i:Nat) u1=>(i≤sc.length∧findV (sc.drop i).flatten s=none)∧G w4 u1) [(0,True,_),(1,True,_),(4,True,_)] (fun (i:Nat)=>[(6,True,.int .i64 ((i:Int)-1))]) (fun (i:Nat)=>i) (vs.length) ⟨⟨O,by rw [Aua O];rfl⟩,G.refl _⟩ (Zb rfl (Zb rfl (Zb rfl (Zb rfl (Zq _))))) ?_))))))))))))))));rintro i u1 ⟨hI1,gl1⟩;have g:=g.trans gl1;replace E:=E.grow gl1;obtain ⟨hi,hf⟩:=hI1;refine Zk (Zk (Zn (Zu J (Wyg J J (Ze (kq (Um J (fun h1=>?_) (fun h1=>?_))))))));have hi1:1≤i:=by have:=Zch h1;omega
 obtain ⟨l,hl⟩:∃ l,sc[i-1]? = some l:=⟨_,Aia O⟩;obtain ⟨hi2,hle⟩:=List.getElem?_eq_some_iff.1 hl;obtain ⟨v,hv⟩:∃ v,vs[i-1]? = some v:=⟨_,Aia O⟩;obtain ⟨hpa,hcell⟩:=hat _ _ hv;obtain ⟨pi,ci,rfl,hci,hrow⟩:=Usc (h.sr.row _ _ _ hv hl);have ei:((i:Int)-1).toNat=i-1:=by omega
 have hll:l.length≤1000000:=by
  have hm:l∈sc:=Bxa hl;have:=(List.sublist_flatten_of_mem hm).length_le;rw [hfl] at this;omega
 refine Yu (kq (Zk (Yw (Zk (Zn (Zu J (Vx J (Xa Yv J (Xn Yl J ((h.B.grow g).at_ J) (Zu J (Yja Yp J J O hpa (Xn Vc J (by rw [ei];exact (Ha (g.block (Ga _ _ hcell))).trans hcell) (Xva Wq J (Zz J (fun _=>Xia (Zc J) Xv (fun _=>O)) (Xf J (Ze (kq (?_))))))))))))))))));refine Yw (Qk (fun (k:Nat) u2=>(k≤l.length∧findV (l.drop k) s=none)∧G u1 u2) [(0,True,_),(1,True,_),(4,True,_),(6,True,_)] (fun (k:Nat)=>[(7,True,.int .i64 ((k:Int)-1))]) (fun (k:Nat)=>k) (l.length) ⟨⟨Aaa _,by rw [List.drop_length];rfl⟩,G.refl _⟩ (Zb rfl (Zb rfl (Zb rfl (Zb rfl (Zb rfl (Zq _)))))) ?_);rintro k u2 ⟨hI2,gl2⟩;have g:=g.trans gl2;have gl1:=gl1.trans gl2;replace E:=E.grow gl2;obtain ⟨hk,hf2⟩:=hI2;refine Zk (Zk (Zn (Zu J (Wyg J J (Ze (kq (Um J (fun h2=>?_) (fun h2=>?_))))))));have hk1:1≤k:=by have:=Zch h2;omega
 obtain ⟨hpi,hr⟩:=hrow (k-1) O;have ek:((k:Int)-1).toNat=k-1:=by omega
 refine Yu (kq (Zk (Yw (Zk (Zn (Zu J (Vx J (Xa Yv J (Xn Yl J ((h.B.grow g).at_ J) (Zu J (Yja Yp J J O hpa (Xn Vc J (by rw [ei];exact (Ha (g.block (Ga _ _ hcell))).trans hcell) (Zu J (Yja Wq J J O hpi (Xa Vya J (Xn Xc J (by rw [ek];exact (hr.grow g).one (i:=0) J) (?_)))))))))))))))));refine Zu J (Uhe J J (Ze (kq (Um J (fun h3=>?_) (fun h3=>?_)))));replace h3:=Zch h3;refine Zk (Zn (Zu J (Vx J (Xa Yv J (Xn Yl J ((h.B.grow g).at_ J) (Zu J (Yja Yp J J O hpa (Xn Vc J (by rw [ei];exact (Ha (g.block (Ga _ _ hcell))).trans hcell) (Zu J (Yja Wq J J O hpi (Va Zaa J J (by rw [ek];exact hr.grow g) (AS fun _ ga _ g E=>?_))))))))))));first|replace gl1:=Yq gl1 ga O|clear gl1|skip
 first|replace gl2:=Yq gl2 ga O|clear gl2|skip
 refine Xf J (Ze (kq (We (Wza (rs:=[.cell 4 84,.tmp 5]) (vs:=[_,_]) J J (Yoa J Zaa J (E.g0.row) (Unb J (Uc))) J ?_))));subst hle;have e:=Qle (sc:=sc) (s:=s) (i:=i-1) (k:=k-1) hi2 O (by rw [show i-1+1=i by omega];exact hf) (by rw [show k-1+1=k by omega];exact hf2) h3;rw [e];exact ⟨rfl,g⟩;replace h3:=Zdh h3;refine Yu (kq (Zn (Zu J (Zz J (fun _=>Xia (Zc J) Xv (fun _=>O)) (Xf J (Vh [(7,_,_),(0,_,_),(1,_,_),(4,_,_),(6,_,_)] (Zb J (Zb J (Zb J (Zb J (Zb J (Zq _)))))) (Ze (fun a ha=>?_))))))));subst hle;have e2:(k:Int)-1-1=((k-1:Nat):Int)-1:=by omega
 rw [e2] at ha;exact ⟨k-1,ha,⟨⟨O,Zhe (sc:=sc) hi2 O (by rw [show k-1+1=k by omega];exact hf2) h3⟩,gl2⟩,O⟩;have hk0:k=0:=by have:=Zdh h2;omega
 subst hk0;refine Xka J (kq (Zn (Zu J (Zz J (fun _=>Xia (Zc J) Xv (fun _=>O)) (Xf J (Vh [(6,_,_),(0,_,_),(1,_,_),(4,_,_)] (Zb J (Zb J (Zb J (Zb J (Zq _))))) (Ze (fun a ha=>?_))))))));subst hle;have e2:(i:Int)-1-1=((i-1:Nat):Int)-1:=by omega
 rw [e2] at ha;exact ⟨i-1,ha,⟨⟨O,Zie hi2 (by rw [show i-1+1=i by omega];exact hf) hf2⟩,gl1⟩,O⟩;have hi0:i=0:=by have:=Zdh h1;omega
 subst hi0;refine Xka J (kq (Zk (Zn (Vzb Qu Xoa pq0 J J (AS fun _ ga _ g E=>?_)))));first|replace gl1:=Yq gl1 ga O|clear gl1|skip
 refine Xf J (Ze (kq (We (Wza (rs:=[.cell 4 84,.tmp 5]) (vs:=[_,_]) J J (Yoa J Zaa J (E.g0.row) (Unb J (Uc))) J ?_))));rw [Aza] at hf;rw [hf];exact ⟨rfl,g⟩
/-! tables -/
def glbF(F:Nd)(s:List UInt8):Ty×Bool:=bif decide (0≤(findD F 6 s).2) then ((ofF (Za (findD F 6 s).1 0)).1,true) else (ty0,false)
def numF(F:Nd)(s:List UInt8):Int:=bif decide (0≤(findD F 6 s).2) then (findD F 6 s).2 else 0
def fncB(F:Nd)(s:List UInt8):Bool:=decide (0≤(findD F 4 s).2)
def fncV(F:Nd)(pv:Nat→Fa)(s:List UInt8):Fa:=bif fncB F s then fnV (findD F 4 s).2.toNat (pv (findD F 4 s).2.toNat) (resT (findD F 4 s).1) else fnV 0 (.slice none 0 0) ty0
section
variable {n:Nat} {σ:List Ent} {c:Prop} {wb:Aa} {ty b:Nat} {x y:Operand} {F:Nd} {s:List UInt8}
theorem Xye(h:MapS wb b (numK 6 (fun _ d=>tyV (ofF (Za d 0)).1) F.kids 0))(hx:Ev n σ c x (.map (some b)))(hy:Ev n σ c y (Str s)) :
 Rd PP n σ c wb (.lookup 52 x y true) ty (.tuple #[tyV (glbF F s).1,.bool (glbF F s).2]):=by
 have k:=Jxc (ty:=ty) Vsa Xxf Yz h hx hy
 have e:(lookS (numK 6 (fun _ d=>tyV (ofF (Za d 0)).1) F.kids 0) s).getD (.agg #[.int .i64 0,.string ⟨#[]⟩])=tyV (glbF F s).1∧(lookS (numK 6 (fun _ d=>tyV (ofF (Za d 0)).1) F.kids 0) s).isSome=(glbF F s).2:=by
  rw [Zvb];unfold glbF findD;cases decide (0≤(findK 6 s F.kids 0).2) <;> exact ⟨rfl,rfl⟩
 rw [← e.1,← e.2];exact k
theorem Zsg(h:MapS wb b (numK 6 (fun k _=>.int .i64 k) F.kids 0))(hx:Ev n σ c x (.map (some b)))(hy:Ev n σ c y (Str s)) :
 Rd PP n σ c wb (.lookup 53 x y false) ty (.int .i64 (numF F s)):=by
 have k:=Ujc (ty:=ty) Vsa Xxg Yec h hx hy
 have e:(lookS (numK 6 (fun k _=>Value.int .i64 k) F.kids 0) s).getD (.int .i64 0) = .int .i64 (numF F s):=by
  rw [Zvb];unfold numF findD;cases hq:decide (0≤(findK 6 s F.kids 0).2);rfl;show Value.int .i64 ((findK 6 s F.kids 0).2.toNat:Int) = .int .i64 (findK 6 s F.kids 0).2;rw [Bya (Zch hq)]
 rw [← e];exact k
theorem Zse{pv:Nat→Fa}{V:Fa}(ef:fncV F pv s=V)(h:MapS wb b (numK 4 (fun k d=>fnV k (pv k) (resT d)) F.kids 0))(hx:Ev n σ c x (.map (some b)))(hy:Ev n σ c y (Str s)) :
 Rd PP n σ c wb (.lookup 54 x y true) ty (.tuple #[V,.bool (fncB F s)]):=by
 subst ef;have k:=Jxc (ty:=ty) Vsa Xwe Uf h hx hy
 have e:(lookS (numK 4 (fun k d=>fnV k (pv k) (resT d)) F.kids 0) s).getD (fnV 0 (.slice none 0 0) ty0)=fncV F pv s∧(lookS (numK 4 (fun k d=>fnV k (pv k) (resT d)) F.kids 0) s).isSome=fncB F s:=by
  rw [Zvb];unfold fncV fncB findD;cases decide (0≤(findK 4 s F.kids 0).2) <;> exact ⟨rfl,rfl⟩
 rw [← e.1,← e.2];exact k
end
theorem Uuc{F:Nd}{TB:List Nat}{ms mg mn mf:Nat}{pv:Nat→Fa}{w:Aa}(T:Tab F TB ms mg mn mf pv w)(s:List UInt8):∃ k p m c y,fncV F pv s=fnV k (.slice p m c) y∧(fncB F s=true→k=(findD F 4 s).2.toNat∧pv k = .slice p m c∧y=resT (findD F 4 s).1):=by
 unfold fncV;cases hq:fncB F s;exact ⟨0,none,0,0,ty0,rfl,fun h=>by cases h⟩;obtain ⟨p,c,e,_⟩:=T.hp s (Zch hq);exact ⟨_,p,_,c,_,by rw [← e];rfl,fun _=>⟨rfl,e,rfl⟩⟩
def glbR(F:Nd)(S:CSt)(s:List UInt8):Ty×Bool:=bif (findV S.vars s).isSome then (ty0,false) else glbF F s
theorem Zte{F:Nd}{n0 b:Nat}{TB X:List Nat}{r0:Option (List Ty)}{S:CSt}{w:Aa}{N:Nat}(h:PC F n0 b TB X r0 S w)(hb:Bd S N)(hN:N≤1000000)(s:List UInt8):Ret PP 184 #[.pointer (some ⟨b,0,none⟩),Str s] w fun r w'=>r = .tuple #[tyV (glbR F S s).1,.bool (glbR F S s).2]∧G w w':=by
 obtain ⟨fv,ms,mg,mn,mf,pv,sv,cv,rv,vs,sc,h⟩:=h;have g:=G.refl w;refine WK 29 [0,1] Tryz.func184 ?_;refine AM fun _ _ _ _ g E=>?_;refine AU ?_;refine CL (Utc (h.grow g).pc hb hN s) ?_;rintro _ _ ⟨rfl,ga⟩;refine RC fun g E=>?_;refine AN fun _ _ _ _ g E=>?_;refine AS fun _ _ _ g E=>?_;refine IF (fun h1=>?_) fun h1=>?_;have e:glbR F S s=(ty0,false):=by unfold glbR;rw [h1];rfl
 refine AS fun _ _ _ g E=>?_;refine Xf J (Ze (kq (We (Wza (rs:=[.cell 4 24,.tmp 5]) (vs:=[_,_]) J J (Yoa J Zj J (E.g1.row) (Unb J (Uc))) J ?_))));rw [e];exact ⟨rfl,g⟩;have e:glbR F S s=glbF F s:=by unfold glbR;rw [h1];rfl
 refine Yu (kq (Zk (Vkb [3,3,3,0,3,0,3,3,3,1,2,3] (Zu J (Vx J (Xa Xda J (Xn Jm J ((h.B.grow g).at_ J) (Zu J (Qb J (Xye (h.T.hg.grow g) (Zc J) (Zc J)) (Zu J (Ju J J (Ju J J (AN fun _ _ _ _ g E=>?_)))))))))))));refine AS fun _ _ _ g E=>?_;refine AS fun _ _ _ g E=>?_;refine RTN ?_;rw [e];exact ⟨rfl,g⟩
theorem Zue{F:Nd}{n0 b:Nat}{TB X:List Nat}{r0:Option (List Ty)}{S:CSt}{w:Aa}{N:Nat}(h:PC F n0 b TB X r0 S w)(hb:Bd S N)(hN:N≤1000000)(s:List UInt8):Ret PP 171 #[.pointer (some ⟨b,0,none⟩),Str s] w fun r w'=>(∃ k m z c y,r = .tuple #[fnV k (.slice m z c) y,.bool (!(findV S.vars s).isSome&&fncB F s)]∧((!(findV S.vars s).isSome&&fncB F s)=true→k=(findD F 4 s).2.toNat∧y=resT (findD F 4 s).1∧RowM TB w' (parT (findD F 4 s).1) (.slice m z c)))∧G w w':=by
 obtain ⟨fv,ms,mg,mn,mf,pv,sv,cv,rv,vs,sc,h⟩:=h;obtain ⟨k,up,um,uc,y,ef,hf⟩:=Uuc h.T s;have g:=G.refl w;refine WK 29 [0,1] Tryz.func171 ?_;refine AM fun _ _ _ _ g E=>?_;refine AU ?_;refine CL (Utc (h.grow g).pc hb hN s) ?_;rintro _ _ ⟨rfl,ga⟩;refine RC fun g E=>?_;refine AN fun _ _ _ _ g E=>?_;refine AS fun _ _ _ g E=>?_;refine IF (fun h1=>?_) fun h1=>?_;have e:(!(findV S.vars s).isSome&&fncB F s)=false:=by rw [h1];rfl
 refine AS fun _ _ _ g E=>?_;refine Xf J (Ze (kq (We (Wza (rs:=[.cell 4 61,.tmp 5]) (vs:=[_,_]) J J (Yoa J Qpa J (E.g1.row) (Unb J (Uc))) J ?_))));rw [e];exact ⟨⟨0,none,0,0,ty0,rfl,fun q=>by cases q⟩,g⟩;have e:(!(findV S.vars s).isSome&&fncB F s)=fncB F s:=by rw [h1];rfl
 refine Yu (kq (Zk (Vkb [3,3,3,0,3,0,3,3,3,1,2,3] (Zu J (Vx J (Xa Ql J (Xn Wp J ((h.B.grow g).at_ J) (Zu J (Qb J (Zse ef (h.T.hf.grow g) (Zc J) (Zc J)) (Zu J (Ju J J (Ju J J (AN fun _ _ _ _ g E=>?_)))))))))))));refine AS fun _ _ _ g E=>?_;refine AS fun _ _ _ g E=>?_;refine RTN ?_
 rw [e];exact ⟨⟨k,up,um,uc,y,rfl,fun q=>by
  obtain ⟨q1,q2,q3⟩:=hf q;refine ⟨q1,q3,?_⟩;rw [← q2,q1];exact (h.grow g).T.hp s (Zch q)⟩,g⟩
def FRes(F:Nd):Prop:=∀ s,0≤(findD F 4 s).2→tyEqB (resT (findD F 4 s).1) ty0=decide ((Za (findD F 4 s).1 1).kind=9)
theorem Xec{F:Nd}{S:CSt}{t:Nd}{v:Vr}(hv:findV S.vars t.text=some v):lookR F S t=(.mk t.kind t.text v.num t.pos [] v.typ 1 ((S.level:Int)-v.level),true):=by
 unfold lookR;rw [hv]
theorem Xfc{F:Nd}{S:CSt}{t:Nd}(hv:findV S.vars t.text=none)(hg:(glbF F t.text).2=true):lookR F S t=(.mk t.kind t.text (numF F t.text) t.pos [] (glbF F t.text).1 2 0,true):=by
 have hq:decide (0≤(findD F 6 t.text).2)=true:=by
  cases hq:decide (0≤(findD F 6 t.text).2);unfold glbF at hg;rw [hq] at hg;cases hg;rfl
 unfold lookR numF glbF;rw [hv];dsimp only;rw [hq];rfl
theorem Zic{F:Nd}{S:CSt}{t:Nd}(hv:findV S.vars t.text=none)(hg:(glbF F t.text).2=false):lookR F S t=bif fncB F t.text then (.mk t.kind t.text (findD F 4 t.text).2 t.pos [] (fncTy (findD F 4 t.text).1) 3 0,true) else (clnT t,false):=by
 have hq:decide (0≤(findD F 6 t.text).2)=false:=by
  cases hq:decide (0≤(findD F 6 t.text).2);rfl;unfold glbF at hg;rw [hq] at hg;cases hg
 unfold lookR fncB;rw [hv];dsimp only;rw [hq];rfl
theorem Xgc{F:Nd}{n0 b:Nat}{TB X:List Nat}{r0:Option (List Ty)}{S:CSt}{w:Aa}{N:Nat}(t:Nd)(p:Option Addr)(c:Nat)(h:PC F n0 b TB X r0 S w)(hb:Bd S N)(hN:N≤1000000)(hR:FRes F)(hk:numS t=0) :
 RetP PP 138 #[.pointer (some ⟨b,0,none⟩),ndV t (.slice p t.kids.length c)] w (fun r w'=>(lookR F S t).2=true∧r=ndV (lookR F S t).1 (.slice none 0 0)∧G w w') (fun ch w'=>(lookR F S t).2=false∧ch=[failE t.pos 5]∧G w w'):=by
 obtain ⟨fv,ms,mg,mn,mf,pv,sv,cv,rv,vs,sc,h⟩:=h;obtain ⟨k,up,um,uc,y,ef,hf⟩:=Uuc h.T t.text;obtain ⟨pc,cc,rfl,hcc⟩:=Zya h.co;have hbl:=h.B.lt;have hlv:=hb.lv;have hnl:=hb.nl;have g:=G.refl w;refine Vd (m:=94) Tryz.func138 J J [(0,True,_),(1,True,_)] (Zb J (Zb J (Zq _))) ?_;refine BM fun _ _ _ _ g E=>?_;refine AN fun _ _ _ _ g E=>?_;refine AU ?_;refine CL (Jr t _ _ _) ?_;rintro _ _ ⟨rfl,ga⟩;refine RC fun g E=>?_;refine AN fun b5 _ _ _ g E=>?_;refine AS fun _ _ _ g E=>?_;refine AU ?_;refine CL (Utc (h.grow g).pc hb hN t.text) ?_;rintro _ _ ⟨rfl,ga⟩;refine RC fun g E=>?_;refine AN fun _ _ _ _ g E=>?_;refine AS fun _ _ _ g E=>?_;refine IF (fun h1=>?_) fun h1=>?_;obtain ⟨v,hv⟩:=Option.isSome_iff_exists.1 h1;simp only [hv,Option.getD_some] at E;have e:=Xec (F:=F) hv;have hvl:v.level≤N:=(hb.vs v (List.mem_reverse.1 (Bza hv))).2.1;refine AU ?_;refine Yx (rowR (some b5)) [3,0,3,3,3,0,3,3,3,0,3,3,0,3,1,3,1,3,1,3,1] [0,1,0,4,12,28,60,124,0,256,1020,0,2048,0,8192,24579,57347,124927,255999,524287,1048575] mix KR [0,1,2,3,4,5,6,7,8,9,10,11,12,13,14,15,16,17,18,19,20] J ?_;have g:=gdr g;replace E:=E.dr
 refine Zr 0 J J (fun _=>Zh Uaa (Zc J)) (Yg 1 J J (fun w1 hx=>Zt Yf (Zc J) (fun _=>(E.g0.keep hx (fun h=>E.ne 0 1 J J J (Option.some.inj h))).at_ J)) (Zr 2 J J (fun _=>Zw (Zc J)) (Zr 3 J J (fun _=>Zxa (Zc J)) (Zr 4 J J (fun _=>Zh Jz (Zc J)) (Yg 5 J J (fun w1 hx=>Zt Yrb (Zc J) (fun _=>((h.B.grow g).keep hx (by intro q;injection q with q;omega)).at_ J)) (Zr 6 J J (fun _=>Qha Zoa (Zc J)) (Zr 7 J J (fun _=>Xia (Zc J) Xv (fun _=>O)) (Zr 8 J J (fun _=>Zh Uba (Zc J)) (Yg 9 J J (fun w1 hx=>Zt Yf (Zc J) (fun _=>(E.g0.keep hx (fun h=>E.ne 0 1 J J J (Option.some.inj h))).at_ J)) (Zr 10 J J (fun _=>Xia (Zc J) (Zc J) (fun _=>O)) (Zr 11 J J (fun _=>Zh Vza (Zc J)) (Yg 12 J J (fun w1 hx=>Zo Zj (Zc J) J (fun _=>(E.g0.keep hx (fun h=>E.ne 0 1 J J J (Option.some.inj h))).row.part 1 2)) (Zr 13 J J (fun _=>Zh Qz (Zc J)) (Zm 14 J J ?_))))))))))))));refine Zl (L':=[15,16,17,18,19,20]) [3,0,3,3,3,0,3,3,3,0,3,3,0,3,2,3,2,3,2,3,2] J J J ?_;refine AS fun _ hgS3 _ g E=>?_;refine Zs (hgS3) ?_;refine Zr 15 J J (fun _=>Zh Ux (Zc J)) (Zm 16 J J ?_);refine Zl (L':=[17,18,19,20]) [3,0,3,3,3,0,3,3,3,0,3,3,0,3,2,3,2,3,2,3,2] J J J ?_;refine AS fun _ hgS4 _ g E=>?_;refine Zs (hgS4) ?_;refine Zr 17 J J (fun _=>Zh Jza (Zc J)) (Zm 18 J J ?_);refine Zl (L':=[19,20]) [3,0,3,3,3,0,3,3,3,0,3,3,0,3,2,3,2,3,2,3,2] J J J ?_;refine AS fun _ hgS5 _ g E=>?_;refine Zs (hgS5) ?_;refine Zr 19 J J (fun _=>Zh Yh (Zc J)) (Zm 20 J J ?_);refine Zl (L':=[]) [3,0,3,3,3,0,3,3,3,0,3,3,0,3,2,3,2,3,2,3,2] J J J ?_;refine Xb J Xk (Zc J) (Zc J) J J E.g1 J J ?_;intro wS6 hgS6 _ BS;replace E:=E.s1 hgS6 BS;have g:=Yq g hgS6 O;refine Zs (hgS6) ?_
 refine TK [0,3,4,5] ?_;refine AS fun _ _ _ g E=>?_;refine RTN ?_;rw [e];refine ⟨rfl,?_,g⟩;have el:(((S.level+1:Nat):Int)-1-(v.level:Int))=(S.level:Int)-v.level:=by omega
 rw [el];rfl;have hv:findV S.vars t.text=none:=by simpa using h1
 refine AU ?_;refine Xg [3,3,3,0,3,0,0,3,3,3,1,2,3] [true,true,true,true,true,true,true,true,true,true,true,true,true] [0,1,3,7,0,16,63,127,255,255,0,1535,4095] mix KR ?_;have g:=gdr g;replace E:=E.dr;refine Zu J (Vx J (Xa Xda J (Xn Jm J ((h.B.grow g).at_ J) (Xa Xt J (Xn Xc J (E.g3.at_ J) (Qb J (Xye (h.T.hg.grow g) (Zc J) (Zc J)) (Zu J (Ju J J (Ju J J (AN fun _ _ _ _ g E=>?_))))))))));refine AS fun _ _ _ g E=>?_;refine IF (fun h2=>?_) fun h2=>?_;have e:=Xfc (S:=S) hv h2;refine AU ?_;refine Yx (rowR (some b5)) [3,3,3,0,3,0,0,0,3,1,3,1,3,1] [0,1,3,7,0,16,63,0,0,256,895,1919,4095,8191] mix KR [0,1,2,3,4,5,6,7,8,9,10,11,12,13] J ?_;have g:=gdr g;replace E:=E.dr;refine Zr 0 J J (fun _=>Zw (Zc J)) (Zr 1 J J (fun _=>Zxa (Zc J)) (Zr 2 J J (fun _=>Zh Qoa (Zc J)) (Yg 3 J J (fun w1 hx=>Zt Qma (Zc J) (fun _=>((h.B.grow g).keep hx (by intro q;injection q with q;omega)).at_ J)) (Zr 4 J J (fun _=>Zh Xt (Zc J)) (Yg 5 J J (fun w1 hx=>Zt Xc (Zc J) (fun _=>(E.g4.keep hx (fun h=>E.ne 4 2 J J J (Option.some.inj h))).at_ J)) (Yg 6 J J (fun w1 hx=>Zsg ((h.T.hn.grow g).keep hx (by intro q;injection q with q;have:=h.T.hn.lt;omega)) (Zc J) (Zc J)) (Yg 7 J J (fun w1 hx=>Zo Zj (Zc J) J (fun _=>(E.g0.keep hx (fun h=>E.ne 0 2 J J J (Option.some.inj h))).row)) (Zr 8 J J (fun _=>Zh Qz (Zc J)) (Zm 9 J J ?_)))))))));refine Zl (L':=[10,11,12,13]) [3,3,3,0,3,0,0,0,3,2,3,2,3,2] J J J ?_;refine AS fun _ hgS9 _ g E=>?_;refine Zs (hgS9) ?_;refine Zr 10 J J (fun _=>Zh Ux (Zc J)) (Zm 11 J J ?_);refine Zl (L':=[12,13]) [3,3,3,0,3,0,0,0,3,2,3,2,3,2] J J J ?_;refine AS fun _ hgS10 _ g E=>?_;refine Zs (hgS10) ?_
 refine Zr 12 J J (fun _=>Zh Yh (Zc J)) (Zm 13 J J ?_);refine Zl (L':=[]) [3,3,3,0,3,0,0,0,3,2,3,2,3,2] J J J ?_;refine Xb J Xk (Zc J) (Zc J) J J E.g2 J J ?_;intro wS11 hgS11 _ BS;replace E:=E.s2 hgS11 BS;have g:=Yq g hgS11 O;refine Zs (hgS11) ?_;refine TK [0,3,4,5] ?_;refine AS fun _ _ _ g E=>?_;refine RTN ?_;rw [e];exact ⟨rfl,rfl,g⟩;have e:=Zic (S:=S) hv h2;refine AU ?_;refine Xg [3,3,3,0,3,0,0,3,3,3,1,2,3] [true,true,true,true,true,true,true,true,true,true,true,true,true] [0,1,3,7,0,16,63,127,255,255,0,1535,4095] mix KR ?_;have g:=gdr g;replace E:=E.dr;refine Zu J (Vx J (Xa Ql J (Xn Wp J ((h.B.grow g).at_ J) (Xa Xt J (Xn Xc J (E.g4.at_ J) (Qb J (Zse ef (h.T.hf.grow g) (Zc J) (Zc J)) (Zu J (Ju J J (Ju J J (AN fun _ _ _ _ g E=>?_))))))))));refine AS fun _ _ _ g E=>?_;refine AU ?_;refine Y3 J Yd J J J (Wy _ _ _ _) ((fun ch w' hz=>⟨by rw [e,hz.1];rfl,hz.2.1,g.trans hz.2.2⟩)) ?_;rintro v76 w76 ⟨rfl,hq,g76⟩;refine ⟨fun _=>g76,?_⟩;have g:=g.trans g76;obtain ⟨f1,f2,f3⟩:=hf hq;rw [hq,Zfh] at e
 have hum:um=(Za (findD F 4 t.text).1 0).kids.length:=by
  obtain ⟨p',c',e',_⟩:=h.T.hp t.text (Zch hq);rw [← f1,f2] at e';injection e' with _ e' _;rw [e'];unfold parT;rw [List.length_map]
 have hres:=hR t.text (Zch hq);rw [← f3] at hres;have hkk:((k:Nat):Int)=(findD F 4 t.text).2:=by rw [f1];exact Bya (Zch hq)
 replace E:=E.grow g76;refine Ze (kq (Zk (Yx (rowR (some b5)) [3,0,3,1,3,1] [0,1,0,4,15,31] mix KR [0,1,2,3,4,5] J ?_)));have g:=gdr g;replace E:=E.dr;refine Zr 0 J J (fun _=>Zh Vxa (Zc J)) (Yg 1 J J (fun w1 hx=>Zt Yf (Zc J) (fun _=>(E.g0.keep hx (fun h=>E.ne 0 3 J J J (Option.some.inj h))).at_ J)) (Zr 2 J J (fun _=>Zh Qz (Zc J)) (Zm 3 J J ?_)));refine Zl (L':=[4,5]) [3,0,3,2,3,2] J J J ?_;refine AS fun _ hgS14 _ g E=>?_;refine Zs (hgS14) ?_;refine Zr 4 J J (fun _=>Zh Ux (Zc J)) (Zm 5 J J ?_);refine Zl (L':=[]) [3,0,3,2,3,2] J J J ?_;refine AS fun _ hgS15 _ g E=>?_;refine Zs (hgS15) ?_;refine Vaa [(4,_,_),(5,_,_),(10,_,_)] (Zb J (Zb J (Zb J (Zq _)))) (Jl (kq (Zk (Zk (Zn (Xa Jf J (Xn Vv J (E.g0.at_ J) (Xva Wd J (Yjb J J (Zu J (Zv J J J (fun _=>Zh Jg (Zc J)) (Wb J J J (Zo Zj (Yc J id) J (fun _=>E.g0.row.part 2 2)) (Zv J J J (fun _=>Qt [_,_] Yz J Vj (Up) J) (Zv J J J (fun _=>Jd Wh (Yc J id) (Yc J id) J) (Zz J (fun _=>Wn (Zc J) (Yc J id)) (Ze (kq (?_))))))))))))))))));refine Um J (fun h3=>?_) (fun h3=>?_);have ey:fncTy (findD F 4 t.text).1=tFunc:=by unfold fncTy;rw [← hres,← hum,show (decide ((um:Int)=0)&&tyEqB y ty0)=true from h3];rfl
 refine Zn (Va Zj J J (h.L.hC.2.2.2.2.2.grow g) (Xa Yh J (Xb J Xk (Zc J) (Zc J) J J E.g3 J J ?_)));intro wS16 hgS16 _ BS;replace E:=E.s3 hgS16 BS;have g:=Yq g hgS16 O;refine AS fun _ _ _ g E=>?_;refine RTN ?_;rw [e];refine ⟨rfl,?_,g⟩;rw [ey,← hkk];rfl;have ey:fncTy (findD F 4 t.text).1=ty0:=by unfold fncTy;rw [← hres,← hum,show (decide ((um:Int)=0)&&tyEqB y ty0)=false from h3];rfl
 refine AS fun _ _ _ g E=>?_;refine RTN ?_;rw [e];refine ⟨rfl,?_,g⟩;rw [ey,← hkk];rfl
def CxM(M:Nat)(F:Nd)(fn:FuncId)(t:Nd)(f:CSt→Nd×CSt):Prop:=∀ {n0 b:Nat} {TB X:List Nat} {r0:List Ty} {S:CSt} {w:Aa} {v:Fa} {N:Nat},PC F n0 b TB X (some r0) S w→S.ee=0→CanV S→Kd w (fun k=>k<n0) t.kids v→Bd S N→N+count t≤M→
 RetP PP fn #[.pointer (some ⟨b,0,none⟩),ndV t v] w (fun r w'=>(f S).2.ee=0∧RetN (f S).1 w.heap.size r w'∧PC F n0 b TB X (some r0) (f S).2 w'∧GT (mutC X) n0 w w') (Bad n0 b X (S.scope+1) (f S).2 w)
theorem CxM.to{M:Nat}{F:Nd}{fn:FuncId}{t:Nd}{f:CSt→Nd×CSt}(H:CxM M F fn t f){n0 b:Nat}{TB X:List Nat}{r0:List Ty}{S:CSt}{w:Aa}{v:Fa}{N m0:Nat}(Z:List Nat)(h:PC F n0 b TB X (some r0) S w)(he:S.ee=0)(hc:CanV S)(hk:Kd w (fun k=>k<n0) t.kids v)(hb:Bd S N)(hn:N+count t≤M)(hZ:∀ j∈Z,j<w.heap.size)(hm:m0≤w.heap.size) :
 RetP PP fn #[.pointer (some ⟨b,0,none⟩),ndV t v] w (fun r w'=>(∃ p c,r=ndV (f S).1 (.slice p (f S).1.kids.length c)∧m0≤w.heap.size∧KdX w.heap.size Z w' (f S).1.kids (.slice p (f S).1.kids.length c))∧(f S).2.ee=0∧PC F n0 b TB X (some r0) (f S).2 w'∧GT (mutC X) n0 w w') (Bad n0 b X (S.scope+1) (f S).2 w) :=
 (H h he hc hk hb hn).mono (fun r w' hr=>by
 obtain ⟨h0,⟨p,c,e,k⟩,h1,h2⟩:=hr;exact ⟨⟨p,c,e,hm,KdN.x k hZ⟩,h0,h1,h2⟩) fun _ _ h=>h
structure Fx (f:CSt→Nd×CSt):Prop where
  can:∀ S,Sc S→CanV S→Can (f S).1.ty
  sc:∀ S,(f S).2.scope=S.scope
theorem Waf{M:Nat}{F t:Nd}{f:CSt→Nd×CSt}(H:CxM M F 113 t f)(HF:Fx f){k:Int}(hk4:k≠4){n0 b:Nat}{TB X:List Nat}{r0:List Ty}{S:CSt}{w:Aa}{v:Fa}{N:Nat}(h:PC F n0 b TB X (some r0) S w)(he:S.ee=0)(hc:CanV S)(hk0:Kd w (fun k=>k<n0) t.kids v)(hb:Bd S N)(hn:N+count t≤M) :
 RetP PP 114 #[.pointer (some ⟨b,0,none⟩),ndV t v,tyV ⟨k,[]⟩] w (fun r w'=>(wantS (f S).1 k t.pos (f S).2).ee=0∧wantS (f S).1 k t.pos (f S).2=(f S).2∧RetN (f S).1 w.heap.size r w'∧PC F n0 b TB X (some r0) (f S).2 w'∧GT (mutC X) n0 w w') (Bad n0 b X (S.scope+1) (wantS (f S).1 k t.pos (f S).2) w):=by
 obtain ⟨p,c,rfl,_⟩:=id hk0;have hlt:=h.lt;have htb:=h.tb;have hsc:=h.scs;have g:=GT.refl (mutC X) n0 w;refine Vd (m:=19) Tryz.func114 J J [(0,True,_),(1,True,_),(2,True,_)] (Zb J (Zb J (Zb J (Zq _)))) ?_;refine BM fun b4 _ ga _ g E=>?_;have hp4:=h;have h:=Ui h;have hk0:=Ui hk0;refine BN fun b5 _ N5 _ g E=>?_;have hp5:=h;have h:=h.grow (N5.g);have hk0:=hk0.grow (N5.g);have h:=hp5.addX N5;refine AN fun b6 _ ga _ g E=>?_;have hp6:=h;have h:=Ui h;have hk0:=Ui hk0;refine AU ?_;refine Y2 J Xj J J (CxM.to H [b4,b5,b6] h he hc hk0 hb hn (E.ltm Ob) g.size) ((fun ch w' hz=>Bad.pass hz ((Er.refl _).failu _ _ _) (Aaa _) g)) ?_;rintro v10 w10 ⟨⟨p10,c10,rfl,q10,k10⟩,he1,h,g10⟩;refine ⟨nw1,?_⟩;have g:=gtw g g10;replace E:=E.gtx g10;have hE:=Qub (HF.can S hsc hc) hk4;have eW:wantS (f S).1 k t.pos (f S).2=failU (tyEqB (f S).1.ty ⟨k,[]⟩) t.pos 7 (f S).2:=by unfold wantS;rw [hE]
 refine AN fun _ _ ga _ g E=>?_;have hp7:=h;have k10:=Uj k10;have h:=Ui h;refine AS fun _ ga Ca g E=>?_;have h:=h.keep ga Ca O (.inl rfl);have k10:=k10.keep ga Oi;refine AU ?_;refine Yx (rowR none) [3,0,0,3,3,0,1] [0,1,0,7,0,16,63] mix KR [0,1,2,3,4,5,6] J ?_;have g:=gtd g;replace E:=E.dr;have h:=h.grow (G.drew _);have k10:=k10.grow (G.drew _);refine Zr 0 J J (fun _=>Zh Yh (Zc J)) (Yg 1 J J (fun w1 hx=>Zo Zj (Zc J) J (fun _=>(E.g0.keep hx (fun h=>nomatch h)).row.part 5 2)) (Yg 2 J J (fun w1 hx=>Zo Zj (Zc J) J (fun _=>(E.g2.keep hx (fun h=>nomatch h)).row)) (Zr 3 J J (fun _=>Jd Wh (Zc J) (Zc J) J) (Zr 4 J J (fun _=>Zh Xp (Zc J)) (Yg 5 J J (fun w1 hx=>Zt Yf (Zc J) (fun _=>(E.g3.keep hx (fun h=>nomatch h)).at_ J)) (Zm 6 J J ?_))))));refine Zl (L':=[]) [3,0,0,3,3,0,1] J J J ?_;refine Y3 J Yd J J J (Wy _ _ _ _) ((fun ch w' hz=>Un (h.sub (Y:=X) htb.1 (by intro j hj;simp [hj])) he1 Od (by rw [eW];exact Er.refl _) hz g (by rw [HF.sc];exact Aaa _))) ?_;rintro v17 w17 ⟨rfl,hq,g17⟩;refine ⟨fun _=>g17,?_⟩;have g:=gtg g g17;have h:=h.grow g17;replace E:=E.grow g17;have k10:=k10.grow g17;refine Zs (g17.only _) ?_;refine TK [6,7] ?_;refine AS fun _ ga Ca g E=>?_;have h:=h.keep ga Ca O (.inl rfl);have k10:=k10.keep ga Oi;refine RTN ?_;have e:wantS (f S).1 k t.pos (f S).2=(f S).2:=by rw [eW,show tyEqB (f S).1.ty ⟨k,[]⟩=true from hq];rfl
 rw [e];exact ⟨he1,rfl,Xh rfl (k10.kdN q10),h.sub htb.1 (by intro j hj;simp [hj]),g⟩
theorem Zve{M:Nat}{F t:Nd}{f:CSt→Nd×CSt}(H:CxM M F 113 t f)(HF:Fx f)(y:Ty){n0 b:Nat}{TB X:List Nat}{r0:List Ty}{S:CSt}{w:Aa}{v:Fa}{N:Nat}(h:PC F n0 b TB X (some r0) S w)(he:S.ee=0)(hc:CanV S)(hk0:Kd w (fun k=>k<n0) t.kids v)(hb:Bd S N)(hn:N+count t≤M) :
 RetP PP 112 #[.pointer (some ⟨b,0,none⟩),ndV t v,tyV y] w (fun r w'=>(failU (Vg y (f S).1.ty) t.pos 7 (f S).2).ee=0∧failU (Vg y (f S).1.ty) t.pos 7 (f S).2=(f S).2∧RetN (f S).1 w.heap.size r w'∧PC F n0 b TB X (some r0) (f S).2 w'∧GT (mutC X) n0 w w') (Bad n0 b X (S.scope+1) (failU (Vg y (f S).1.ty) t.pos 7 (f S).2) w):=by
 obtain ⟨p,c,rfl,_⟩:=id hk0;have hlt:=h.lt;have htb:=h.tb;have hsc:=h.scs;have g:=GT.refl (mutC X) n0 w;refine Vd (m:=19) Tryz.func112 J J [(0,True,_),(1,True,_),(2,True,_)] (Zb J (Zb J (Zb J (Zq _)))) ?_;refine BM fun b4 _ ga _ g E=>?_;have hp4:=h;have h:=Ui h;have hk0:=Ui hk0;refine BN fun b5 _ N5 _ g E=>?_;have hp5:=h;have h:=h.grow (N5.g);have hk0:=hk0.grow (N5.g);have h:=hp5.addX N5;refine AN fun b6 _ ga _ g E=>?_;have hp6:=h;have h:=Ui h;have hk0:=Ui hk0;refine AU ?_;refine Y2 J Xj J J (CxM.to H [b4,b5,b6] h he hc hk0 hb hn (E.ltm Ob) g.size) ((fun ch w' hz=>Bad.pass hz ((Er.refl _).failu _ _ _) (Aaa _) g)) ?_;rintro v10 w10 ⟨⟨p10,c10,rfl,q10,k10⟩,he1,h,g10⟩;refine ⟨nw1,?_⟩;have g:=gtw g g10;replace E:=E.gtx g10;refine AN fun _ _ ga _ g E=>?_;have hp7:=h;have k10:=Uj k10;have h:=Ui h;refine AS fun _ ga Ca g E=>?_;have h:=h.keep ga Ca O (.inl rfl);have k10:=k10.keep ga Oi;refine AU ?_;refine Yx (rowR none) [0,3,0,1,3,0,1] [0,0,2,7,0,16,63] mix KR [0,1,2,3,4,5,6] J ?_;have g:=gtd g;replace E:=E.dr;have h:=h.grow (G.drew _);have k10:=k10.grow (G.drew _);refine Yg 0 J J (fun w1 hx=>Zo Zj (Zc J) J (fun _=>(E.g2.keep hx (fun h=>nomatch h)).row)) (Zr 1 J J (fun _=>Zh Yh (Zc J)) (Yg 2 J J (fun w1 hx=>Zo Zj (Zc J) J (fun _=>(E.g0.keep hx (fun h=>nomatch h)).row.part 5 2)) (Zr 4 J J (fun _=>Zh Xp (Zc J)) (Yg 5 J J (fun w1 hx=>Zt Yf (Zc J) (fun _=>(E.g3.keep hx (fun h=>nomatch h)).at_ J)) (Zm 3 J J ?_)))));refine Zl (L':=[6]) [0,3,0,1,3,0,1] J J J ?_;refine CL (Jtd y (f S).1.ty _ h.laid.hL h.laid.hb) ?_;rintro v14 w14 ⟨rfl,g14⟩
 refine ⟨fun _=>g14,?_⟩;have g:=gtg g g14;replace E:=E.grow g14;have h:=h.grow (g14);have k10:=k10.grow (g14);refine Zs ((g14).only _) ?_;refine Zm 6 J J ?_;refine Zl (L':=[]) [0,3,0,1,3,0,1] J J J ?_;refine Y3 J Yd J J J (Wy _ _ _ _) ((fun ch w' hz=>Un (h.sub (Y:=X) htb.1 (by intro j hj;simp [hj])) he1 Od (Er.refl _) hz g (by rw [HF.sc];exact Aaa _))) ?_;rintro v17 w17 ⟨rfl,hq,g17⟩;refine ⟨fun _=>g17,?_⟩;have g:=gtg g g17;have h:=h.grow g17;replace E:=E.grow g17;have k10:=k10.grow g17;refine Zs (g17.only _) ?_;refine TK [6,7] ?_;refine AS fun _ ga Ca g E=>?_;have h:=h.keep ga Ca O (.inl rfl);have k10:=k10.keep ga Oi;refine RTN ?_;have e:failU (Vg y (f S).1.ty) t.pos 7 (f S).2=(f S).2:=by rw [hq];rfl
 rw [e];exact ⟨he1,rfl,Xh rfl (k10.kdN q10),h.sub htb.1 (by intro j hj;simp [hj]),g⟩
def OwF{α:Type}(f:α→List Fa)(e:Ba)(z base:Nat)(w:Aa)(ks:List α)(s:Fa):Prop:=w.ownsRow base e z s ks.length (ks.flatMap f)∧(ks=[]→s = .slice none 0 0)
def RetF{α:Type}(f:α→List Fa)(w:Aa)(ks:List α)(s:Fa):Prop:=RowF f w ks s∧(ks=[]→s = .slice none 0 0)
section
variable {α:Type} {f:α→List Fa} {e:Ba} {z base:Nat} {w w':Aa} {ks:List α} {s:Fa}
theorem OwF.grow(h:OwF f e z base w ks s)(g:G w w'):OwF f e z base w' ks s:=⟨Xl h.1 g,h.2⟩
theorem OwF.keep(h:OwF f e z base w ks s){j:Nat}{e':Ba}{l:List Fa}(hg:w.grownBy w' (some j))(hB:Blk w j e' l)(he:Aca e e'=false):OwF f e z base w' ks s:=⟨Yi h.1 hg (.inr (Xy h.1 hB he)),h.2⟩
theorem OwF.keepM(h:OwF f e z base w ks s){j:Nat}{l:List Fa}(hg:w.grownBy w' (some j))(hB:MapB w j l):OwF f e z base w' ks s:=by
 refine ⟨Yi h.1 hg (.inr fun hk=>?_),h.2⟩;obtain ⟨es,c,hb,_⟩:=hB;rcases h.1.2 with ⟨h1,_⟩|⟨g,cap,cur,h1,h2,h3,_⟩;rw [h1] at hk;cases hk;rw [h1] at hk;have:g=j:=by injection hk
 subst this;rw [hb] at h3;injection h3 with h3;cases h3
theorem OwF.keepB(h:OwF f e z base w ks s){j:Nat}(hg:w.grownBy w' (some j))(hne:∀ k,s.ownBlock=some k→k≠j):OwF f e z base w' ks s :=
 ⟨Yi h.1 hg (.inr fun hk=>hne j hk rfl),h.2⟩
theorem OwF.ge(h:OwF f e z base w ks s):∀ k,s.ownBlock=some k→base≤k:=fun k hk=>(h.1.lt k hk).1
theorem OwF.lt(h:OwF f e z base w ks s):∀ k,s.ownBlock=some k→k<w.heap.size:=fun k hk=>(h.1.lt k hk).2
theorem OwF.slice(h:OwF f e z base w ks s):∃ a c,s = .slice a ks.length c:=by
 obtain ⟨a,c,h2,_⟩:=Zya h.1;exact ⟨a,c,h2⟩
theorem OwF.ret(h:OwF f e z base w ks s):RetF f w ks s:=⟨Vkd h.1 rfl,h.2⟩
theorem RetF.grow(h:RetF f w ks s)(g:G w w'):RetF f w' ks s:=⟨h.1.grow g,h.2⟩
theorem RetF.slice(h:RetF f w ks s):∃ a c,s = .slice a ks.length c:=by
 obtain ⟨a,c,h2,_⟩:=h.1;exact ⟨a,c,h2⟩
theorem RowF.opt(hf:∀ a,(f a).length=z){p:Option Addr}{n c:Nat}(h:RowF f w ks (.slice p n c)){i:Nat}(hi:i<ks.length):p=some ⟨pb p,po p,none⟩∧RowAt w (pb p) (po p+i*z) (f ks[i]):=by
 obtain ⟨p',c',e1,_,h2⟩:=h;injection e1 with e1 _ _;subst e1;obtain ⟨b,o,rfl,hR⟩:=h2 O;exact ⟨rfl,Zcc hf hR hi⟩
end
section
variable {P:Ea} {Z:List Da→Act→Aa→Prop} {ops:List Oper} {cl:List Nat} {lv:List Bool} {W0:Aa} {n:Nat} {K:Act→Aa→Prop} {k:Nat} {rest:List Oper} {σ:List Ent} {w:Aa} {d:Nat} {ty:Ba} {pos:String} {after:Array Edge}
end
/-! captures -/
structure Lc where
  name:List UInt8
  typ:Ty
  par:Bool
  box:Bool
def fldR(F:Nd)(y:Ty)(s:List UInt8):Ty×Bool×Bool:=bif decide (y.kind=4) then (match (Ug F y.name).1.find? fun f=>decide (f.name=s) with|some f=>(f.ty,true,true)|none=>(ty0,true,false)) else (ty0,false,false)
theorem Zbd{F:Nd}{n0 b:Nat}{TB X:List Nat}{r0:Option (List Ty)}{S:CSt}{w:Aa}(x:Nd)(v:Fa)(s:List UInt8)(h:PC F n0 b TB X r0 S w):Ret PP 139 #[.pointer (some ⟨b,0,none⟩),ndV x v,Str s] w fun r w'=>r = .tuple #[tyV (fldR F x.ty s).1,.bool (fldR F x.ty s).2.1,.bool (fldR F x.ty s).2.2]∧G w w':=by
 obtain ⟨fv,ms,mg,mn,mf,pv,sv,cv,rv,vs,sc,h⟩:=h;have g:=G.refl w;refine WK 43 [0,1,2] Tryz.func139 ?_;refine BM fun _ _ _ _ g E=>?_;refine AN fun _ _ _ _ g E=>?_;refine IF (fun h1=>?_) fun h1=>?_;have hk:decide (x.ty.kind=4)=false:=by simpa using h1
 have e:fldR F x.ty s=(ty0,false,false):=by unfold fldR;rw [hk];rfl
 refine AS fun _ _ _ g E=>?_;refine RTN ?_;rw [e];exact ⟨rfl,g⟩;have hk:decide (x.ty.kind=4)=true:=by simpa using h1
 refine Yu (kq (Zk (Xg [3,3,3,0,3,3,0,1,3,3,3,3,3] [true,true,true,true,true,true,true,true,true,true,true,true,true] [0,1,3,7,0,16,48,127,255,511,511,1023,4095] mix KR ?_)));have g:=gdr g;replace E:=E.dr;refine Zu J (Vx J (Xa Qna J (Va Zf J J ((h.B.grow g).row.part 0 9) (Xa Yh J (Xa Urb J (Xn Xc J (E.g1.at_ J) (CL (Jud F x.ty.name fv (fun k=>k<n0) _ (h.grow g).L.hL (h.grow g).L.hb (h.grow g).L.hT (h.grow g).kF h.hF) ?_)))))));rintro v26 w26 ⟨⟨lv,rfl,hRF⟩,g26⟩;refine ⟨fun _=>g26,?_⟩;obtain ⟨fs,hfs⟩:∃ fs,fs=(Ug F x.ty.name).1:=⟨_,rfl⟩;rw [← hfs] at hRF;have hfl:fs.length≤1000000:=by rw [hfs];exact Zle F _ h.hF
 obtain ⟨pf,cf,rfl,hcf,_⟩:=id hRF;have g:=g.trans g26;replace E:=E.grow g26;refine AU ?_;refine Qk (fun (i:Nat) u1=>(i≤fs.length∧(fs.drop i).find? (fun f=>decide (f.name=s))=fs.find? (fun f=>decide (f.name=s))∧RowF fldCells u1 fs (.slice pf fs.length cf))∧G w26 u1) [(2,True,_),(6,True,_),(29,True,_),(30,True,_)] (fun (i:Nat)=>[(31,True,.int .i64 i)]) (fun (i:Nat)=>fs.length-i) (0) ⟨⟨Apa _,rfl,hRF⟩,G.refl _⟩ (Zb J (Zb J (Zb J (Zb J (Zb J (Zq _)))))) ?_;rintro i u1 ⟨hI1,gl1⟩;have g:=g.trans gl1;replace E:=E.grow gl1;clear hRF;obtain ⟨hi,hf,hRF⟩:=hI1;refine IF (fun h2=>?_) fun h2=>?_;replace h2:i<fs.length:=by simp only [Zah] at h2;omega
 obtain ⟨hpe,hcell⟩:=RowF.opt Wlc hRF h2;rw [Bja h2] at hf;refine AU ?_;refine Yt J Usa J ?_;intro b12 w12 N12;have l12:=N12.ge g;have l12_gl1:=N12.ge gl1;have hRF0:=hRF;have g:=g.trans N12.g;have gl1:=gl1.trans (N12.g);have hRF:=hRF.grow (N12.g);replace E:=E.new N12;refine AS fun _ ga _ g E=>?_;first|replace gl1:=Yq gl1 ga O|clear gl1|skip
 have hRF:=hRF0.grow (Yq N12.g ga (Nat.le_of_eq N12.at_.symm));refine Ze (kq (Zk (Zn (Xa Wdb J (Xn Xc J (E.g0.at_ J) (Zu J (Uhe J J (Ze (kq (Um J (fun h3=>?_) (fun h3=>?_)))))))))));replace h3:=Zch h3;rw [List.find?_cons_of_pos (by simpa using h3)] at hf;refine Zk (Zn (Xa Web J (Va Zj J J (E.g0.row.part 1 2) (AS fun _ ga _ g E=>?_))));first|replace gl1:=Yq gl1 ga O|clear gl1|skip
 refine RTN ?_;have e:fldR F x.ty s=(fs[i].ty,true,true):=by unfold fldR;rw [hk,Zfh,← hfs,← hf]
 rw [e];exact ⟨rfl,g⟩;replace h3:=Zdh h3;rw [List.find?_cons_of_neg (by simpa using h3)] at hf;refine AU ?_;refine SK [31,2,6,29,30] ?_;refine Ze (fun a ha=>?_);exact ⟨i+1,ha,⟨⟨h2,hf,hRF⟩,gl1⟩,O⟩;replace h2:fs.length≤i:=by simp only [Zbh] at h2;omega
 rw [Aua h2] at hf;refine AS fun _ ga _ g E=>?_;first|replace gl1:=Yq gl1 ga O|clear gl1|skip
 refine RTN ?_;have e:fldR F x.ty s=(ty0,true,false):=by unfold fldR;rw [hk,Zfh,← hfs,← hf];rfl
 rw [e];exact ⟨rfl,g⟩
theorem PC.keepO{F:Nd}{n0 b lo:Nat}{TB X Y:List Nat}{r0:Option (List Ty)}{S:CSt}{w w':Aa}{ks:List Nd}{s:Fa}(h:PC F n0 b TB X r0 S w)(hg:w.grownBy w' s.ownBlock)(hO:OwnN Y lo w ks s)(hj:n0≤lo):PC F n0 b TB X r0 S w' :=
 h.keepr hg fun k hk=>by
 obtain ⟨cs,fr,hc⟩:=hO.nd k hk;exact ⟨Aea hj (hO.ge k hk),cs,_,fr,hc,.inl rfl⟩
theorem Ztg{F t:Nd}{S:CSt}(hs:Sc S)(i:Nat):Vp S (stA (ckY F t) S i).2:=Xcd (fun i=>Jma F _) hs i
theorem Uhd{F t:Nd}{S:CSt}(hs:Sc S)(hc:CanV S):∀ i,CanV (stA (ckY F t) S i).2
 | 0=>hc
 | i+1=>(Uhc F _).st _ ((Ztg hs i).sc hs) (Uhd hs hc i)
theorem Xze{F t:Nd}(S:CSt)(i:Nat):∀ k,Er (stA (ckY F t) S i).2 (stA (ckY F t) S (i+k)).2
 | 0=>Er.refl _
 | k+1=>(Xze S i k).trans ((Uh F (Za t (i+k))).st _).e
theorem Qre{F t:Nd}(K:∀ i,i<t.kids.length→CxM 1000000 F 87 (Za t i) (ckT F (Za t i)).st):CxM 1000001 F 57 t (ckT F t).sts:=by
 intro n0 b TB X r0 S w v N h he hc hkw hb hcn
 have e:(ckT F t).sts S=(annT t (stA (ckY F t) S t.kids.length).1 ty0,(stA (ckY F t) S t.kids.length).2):=by
  rw [Vm];show (annT t (stA (ckX F t) S t.kids.length).1 ty0,(stA (ckX F t) S t.kids.length).2)=_;rw [Zme S _ (Aaa _)]
 rw [e];obtain ⟨p,c,rfl,_⟩:=id hkw;have hlt:=h.lt;have hln:=Wu t;have hs:=h.scs;have g:=GT.refl (mutC X) n0 w;refine Vd (m:=27) Tryz.func57 J J [(0,True,_),(1,True,_)] (Zb J (Zb J (Zq _))) ?_;refine BM fun b3 _ ga _ g E=>?_;have h:=Ui h;refine AN fun b4 _ ga _ g E=>?_;have h:=Ui h;refine AU ?_;refine CL (Jr t _ _ _) ?_;rintro _ _ ⟨rfl,ga⟩;refine RC fun g E=>?_;have h:=Uk h;refine AN fun b5 _ ga _ g E=>?_;have h:=Ui h;refine AS fun _ ga Ca g E=>?_;have h:=h.keep ga Ca O (.inl rfl);refine AU ?_;have hnd1:=E.1;refine Qa (fun (i:Nat) u1=>(i≤t.kids.length∧(stA (ckY F t) S i).2.ee=0∧PC F n0 b TB X r0 (stA (ckY F t) S i).2 u1∧∃ s,Blk u1 b5 26 (ndCells (clnT t) s)∧OwnN [b3,b4,b5] w.heap.size u1 (stA (ckY F t) S i).1 s)∧GT (mutC X) n0 w u1) _ [(0,True,_),(4,True,_),(5,True,_),(11,True,_),(12,True,_)] (fun (i:Nat)=>[(13,True,.int .i64 i)]) (fun (i:Nat)=>t.kids.length-i) (0) ⟨⟨Apa _,he,h,_,E.g0,Yxa _ _ _⟩,g⟩ (Zx (blkE E.g2) (Zx (blkE E.g1) (Wa _))) (Zb J (Zb J (Zb J (Zb J (Zb J (Zb J (Zq _))))))) ?_;clear E;rintro i u1 ⟨hI1,gl1⟩ ⟨B3,B4,_⟩;replace B3:Blk _ _ _ _:=B3;replace B4:Blk _ _ _ _:=B4;have g:=gl1;obtain ⟨hi,hei,h,s,B5,hO⟩:=hI1;obtain ⟨sa,sc,rfl⟩:=hO.slice;have hk0:=hkw.gt gl1 (fun k h=>h);have E:=Vwa (L:=[(b5,_,_),(b4,_,_),(b3,_,_)]) hnd1 ⟨B5,B4,B3,trivial⟩ rfl;refine IF (fun h1=>?_) fun h1=>?_;replace h1:i<t.kids.length:=by simp only [Zah] at h1;omega
 obtain ⟨e0,p1,c1,hcell,hkid⟩:=Yr hk0 (i:=i) h1;have hDp:pb p<n0:=Vq hk0 h1;have hq:CxM 1000000 F 87 (Za t i) (ckT F (Za t i)).st:=K i h1;have hst:=Xqf (F:=F) S i hi;have hbd:=hst.bd _ hb;have hsc:=Uca t (i+1);have hcN:=Xya h1;have hsc1:sC t (i+1)=sC t i+cN t i:=rfl;have hOlt:=hO.lt;have hlen:=Xue (ckY F t) S i;refine AN fun b7 _ ga _ g E=>?_;have hO:=Uj hO;have h:=Ui h;have hkid:=Ui hkid;refine AS fun _ ga Ca g E=>?_;have h:=h.keep ga Ca O (.inl rfl);have hO:=Ua hO;have hkid:=Ud hkid;have hOlt:=hO.lt;refine AU ?_;refine Yx (gtC X n0) [3,0,3,0,1,1,2,3,2] [0,1,0,0,12,28,63,127,255] mix KR [0,1,2,3,4,5,6,7,8] J ?_;have g:=gtd g;replace E:=E.dr;have h:=h.grow (G.drew _);have hO:=hO.grow (G.drew _);have hkid:=hkid.grow (G.drew _);refine Zr 0 J J (fun _=>Zh Zg (Zc J)) (Yg 1 J J (fun w1 hx=>Zt Zi (Zc J) (fun _=>(E.g1.gt hx J).at_ J)) (Zr 2 J J (fun _=>Zw (Zc J)) (Yg 3 J J (fun w1 hx=>Zo Zf (Zc J) J (fun _=>(E.g0.gt hx J).row)) (Zm 4 J J ?_))));refine Zl (L':=[5,6,7,8]) [3,0,3,0,2,1,2,3,2] J J J ?_;refine Y2 J Qp J J (CxM.to hq [b3,b4,b5,b7] h hei (Uhd hs hc i) hkid hbd O (E.ltm Ob) g.size) ((fun ch w' hz=>Bad.pass hz (by have:=Xze (F:=F) (t:=t) S (i+1) (t.kids.length-(i+1));rwa [show i+1+(t.kids.length-(i+1))=t.kids.length by omega] at this) (by rw [hst.scope];exact Aaa _) g)) ?_;rintro v21 w21 ⟨⟨p21,c21,rfl,q21,k21⟩,he21,h,g21⟩;refine ⟨nw1,?_⟩;have g:=gtw g g21;replace E:=E.gtx g21;have hO:=hO.gt g21 rfl;refine Zs (g21) ?_;refine Zm 5 J J ?_;refine Zl (L':=[6,7,8]) [3,0,3,0,2,1,2,3,2] J J J ?_;refine CN fun _ _ N22 _ g E=>?_;have k21:=k21.new N22
 have hO:=hO.new N22;have h:=h.grow (N22.g);refine Zs (GT.of_g (N22.g)) ?_;refine Zm 6 J J ?_;refine Ys (L':=[7,8]) [3,0,3,0,2,1,2,3,2] J J J J ?_;have hO:=hO.sub (Y:=[b3,b4,b5]) Oj;have hOo:=hO;refine Wia J Zd Zp J (Zc J) hO (Zc J) J E.g0.row (Vo k21 q21 Oj (fun j hj=>.inr (hOlt j hj))) (by simp;omega) (by have:=g.size;omega) ⟨by have:=g.size;omega,by have q3:=E.g4.lt;have q4:=E.g3.lt;have q5:=E.g2.lt;simp;omega⟩ ?_;intro a23 c23 w23 hO hg23;replace E:=E.sel [false,false,true,true,true];replace E:=E.keepX hg23 hOo.ne Ob;have g:=Wx g hg23 (fun k hk=>hOo.ge k hk);have h:=h.keepO hg23 hOo O;refine Xm ?_;refine Zr 7 J J (fun _=>Zh Zg (Zc J)) (Zm 8 J J ?_);refine Ys (L':=[]) [3,0,3,0,2,1,2,3,2] J J J J ?_;refine AS fun _ ga Ca g E=>?_;have h:=h.keep ga Ca O (.inl rfl);have hO:=Ua hO;refine Xm ?_;refine TK [0,4,5,11,12,13] ?_;refine AU ?_;refine SK [13,0,4,5,11,12] ?_;refine Ze (fun a ha=>?_);exact ⟨i+1,ha,⟨⟨h1,he21,h,_,E.g0,hO.sub Oj⟩,g⟩,(Zx (blkE E.g2) (Zx (blkE E.g1) (Wa _))),O⟩;replace h1:i=t.kids.length:=by simp only [Zbh] at h1;omega
 subst h1;refine AS fun _ ga Ca g E=>?_;have h:=h.keep ga Ca O (.inl rfl);have hO:=Ua hO;refine RTN ?_;exact ⟨hei,Xh (t:=annT t _ ty0) rfl (hO.sub (Y:=[b3,b4,b5]) Oj).kd,h,g⟩
def GoodT(y:Ty):Prop:=Vl y = !decide (8≤y.kind)
structure FW (F:Nd):Prop where
  res:FRes F
  glb:∀ s,0≤(findD F 6 s).2→GoodT (ofF (Za (findD F 6 s).1 0)).1
  fld:∀ s,∀ f∈(Ug F s).1,GoodT f.ty
  one:∀ s,0≤(findD F 6 s).2→(findD F 4 s).2<0
def synS(F t:Nd)(S:CSt):CSt:=bif decide (t.kind=28) then ((ckT F (Za t 0)).ex S).2 else S
theorem Uag{F t:Nd}{x:Nat→Ck}{S:CSt}(HF:FW F)(hk:t.kind=27):(rcvR F t x S).2=((glbR F S t.text).2 && !Vl (glbR F S t.text).1)∧(rcvR F t x S).1=(lookR F S t).1∧((rcvR F t x S).2=true→(lookR F S t).2=true):=by
 have e:rcvR F t x S=((lookR F S t).1,((lookR F S t).2&&decide ((lookR F S t).1.ref=2))&&decide (8≤(lookR F S t).1.ty.kind)):=by unfold rcvR;rw [Jyg hk];rfl
 rw [e];refine ⟨?_,rfl,fun h=>by simp only [Aga] at h;exact h.1.1⟩;unfold glbR
 cases hv:findV S.vars t.text with
 | some v=>rw [Xec hv];rfl
 | none =>
  cases hg:(glbF F t.text).2;rw [Zic hv hg];show _=((glbF F t.text).2&&_);rw [hg,Ama];cases fncB F t.text <;> rfl
  rw [Xfc hv hg];show ((true&&true)&&decide (8≤(glbF F t.text).1.kind))=((glbF F t.text).2 && !Vl (glbF F t.text).1)
  have hq:0≤(findD F 6 t.text).2:=by
   cases hq:decide (0≤(findD F 6 t.text).2);unfold glbF at hg;rw [hq] at hg;cases hg;exact Zch hq
  have ht:(glbF F t.text).1=(ofF (Za (findD F 6 t.text).1 0)).1:=by unfold glbF;rw [Jyg hq];rfl
  have:=HF.glb _ hq;rw [hg,ht,this];simp
theorem Ubg{F t:Nd}{x:Nat→Ck}{S:CSt}(HF:FW F)(hk:t.kind=28)(he:((x 0).ex S).2.ee=0):(rcvR F t x S).2=((fldR F ((x 0).ex S).1.ty t.text).2.2 && !Vl (fldR F ((x 0).ex S).1.ty t.text).1)∧((rcvR F t x S).2=true→(rcvR F t x S).1=annT t [((x 0).ex S).1] (fldR F ((x 0).ex S).1.ty t.text).1):=by
 have e:rcvR F t x S=((memR F t x S).1.1,((memR F t x S).1.2&&decide ((memR F t x S).2.ee=0))&&decide (8≤(memR F t x S).1.1.ty.kind)):=by unfold rcvR;rw [Jxg O,Jyg hk];rfl
 rw [e];cases hq:decide (((x 0).ex S).1.ty.kind=4);have em:memR F t x S=((annT t [((x 0).ex S).1] ty0,false),failS t.pos 7 ((x 0).ex S).2):=by unfold memR;dsimp only;rw [hq];rfl
 have ef:fldR F ((x 0).ex S).1.ty t.text=(ty0,false,false):=by unfold fldR;rw [hq];rfl
 rw [em,ef];exact ⟨rfl,fun h=>by cases h⟩
 cases hf:(Ug F ((x 0).ex S).1.ty.name).1.find? fun f=>decide (f.name=t.text) with
 | none =>
  have em:memR F t x S=((annT t [((x 0).ex S).1] ty0,false),failS t.pos 5 ((x 0).ex S).2):=by unfold memR;dsimp only;rw [hq,Zfh,hf]
  have ef:fldR F ((x 0).ex S).1.ty t.text=(ty0,true,false):=by unfold fldR;rw [hq,Zfh,hf]
  rw [em,ef];exact ⟨rfl,fun h=>by cases h⟩
 | some f =>
  have em:memR F t x S=((annT t [((x 0).ex S).1] f.ty,true),((x 0).ex S).2):=by unfold memR;dsimp only;rw [hq,Zfh,hf]
  have ef:fldR F ((x 0).ex S).1.ty t.text=(f.ty,true,true):=by unfold fldR;rw [hq,Zfh,hf]
  have:=HF.fld _ f (Bza hf);rw [em,ef];refine ⟨?_,fun _=>rfl⟩;show ((true&&decide (((x 0).ex S).2.ee=0))&&decide (8≤f.ty.kind))=(true && !Vl f.ty);rw [Jyg he,this];simp
theorem Xhc(F:Nd)(S:CSt)(t:Nd):(lookR F S t).1.kids=[]:=by
 unfold lookR
 cases findV S.vars t.text with
 | some v=>rfl
 | none =>
  dsimp only;cases decide (0≤(findD F 6 t.text).2);cases decide (0≤(findD F 4 t.text).2) <;> rfl
  rfl
theorem Wbf{F t:Nd}(HF:FW F)(HX:t.kind=28→0<t.kids.length∧CxM 1000000 F 113 (Za t 0) (ckT F (Za t 0)).ex){n0 b:Nat}{TB X:List Nat}{r0:List Ty}{S:CSt}{w:Aa}{v:Fa}{N:Nat}(h:PC F n0 b TB X (some r0) S w)(he:S.ee=0)(hc:CanV S)(hk0:Kd w (fun k=>k<n0) t.kids v)(hb:Bd S N)(hn:N+count t≤1000000) :
 RetP PP 169 #[.pointer (some ⟨b,0,none⟩),ndV t v] w (fun r w'=>(∃ x m z c,r = .tuple #[ndV x (.slice m z c),.bool ((ckT F t).rcv S).2]∧(((ckT F t).rcv S).2=true→x=((ckT F t).rcv S).1∧RetN x w.heap.size (ndV x (.slice m z c)) w'))∧(synS F t S).ee=0∧PC F n0 b TB X (some r0) (synS F t S) w'∧GT (mutC X) n0 w w') (Bad n0 b X (S.scope+1) (synS F t S) w):=by
 obtain ⟨p,c,rfl,_⟩:=id hk0;have hlt:=h.lt;have htb:=h.tb;have hs:=h.scs;have htb2:∀ j∈TB,j<w.heap.size:=fun j hj=>htb.2 j (htb.1 j hj);have er:(ckT F t).rcv S=rcvR F t (ckX F t) S:=by rw [Vm];rfl
 rw [er];have g:=GT.refl (mutC X) n0 w;refine Vd (m:=65) Tryz.func169 J J [(0,True,_),(1,True,_)] (Zb J (Zb J (Zq _))) ?_;refine BM fun b3 _ ga _ g E=>?_;have hp3:=h;have h:=Ui h;have hk0:=Ui hk0;refine AN fun b4 _ ga _ g E=>?_;have hp4:=h;have h:=Ui h;have hk0:=Ui hk0;refine IF (fun h1=>?_) fun h1=>?_;replace h1:t.kind=27:=Zch h1;obtain ⟨r1,r2,r3⟩:=Uag (x:=ckX F t) (S:=S) HF h1;have es:synS F t S=S:=by unfold synS;rw [Jxg O];rfl
 have hnum:numS t=0:=by unfold numS Wj;rw [Jxg O,Jxg O];rfl
 refine AU ?_;refine CL (Zte h hb O t.text) ?_;rintro _ _ ⟨rfl,ga⟩;refine RC fun g E=>?_;have h:=Uk h;refine AN fun _ _ N6 _ g E=>?_;have hp6:=h;have h:=h.grow (N6.g);have h:=hp6.addX N6;refine AS fun _ ga Ca g E=>?_;first|have h:=h.keep ga Ca O (.inl rfl)|have h:=h.keep ga Ca O (.inr ⟨by simp,fun hm=>by have:=htb2 _ hm;omega⟩)
 refine AU ?_;refine CG (fun hc=>Wfa (glbR F S t.text).1 _ h.laid.hL h.laid.hb) (fun w27 g27=>?_);have g:=gtg g g27;replace E:=E.grow g27;have h:=h.grow (g27);refine IF (fun h2=>?_) fun h2=>?_;have hl:=r3 (r1.trans h2);refine AU ?_;refine Y2 J Jx J J (Xgc t _ _ h hb O HF.res hnum) ((fun ch w' hz=>by rw [hl] at hz;exact Awa hz.1)) ?_;rintro _ _ ⟨_,rfl,ga⟩;refine RC fun g E=>?_;have h:=Uk h;refine AS fun _ ga Ca g E=>?_;first|have h:=h.keep ga Ca O (.inl rfl)|have h:=h.keep ga Ca O (.inr ⟨by simp,fun hm=>by have:=htb2 _ hm;omega⟩)
 refine RTN ?_;rw [es];refine ⟨⟨(lookR F S t).1,none,0,0,by rw [r1,h2],fun _=>⟨r2.symm,?_⟩⟩,he,h.sub htb.1 (by intro j hj;simp [hj]),g⟩;exact Yzc _ _ _ (Xhc F S t);refine AS fun _ ga Ca g E=>?_;first|have h:=h.keep ga Ca O (.inl rfl)|have h:=h.keep ga Ca O (.inr ⟨by simp,fun hm=>by have:=htb2 _ hm;omega⟩)
 refine RTN ?_;rw [es];exact ⟨⟨nd0,none,0,0,by rw [r1,h2];rfl,fun q=>by rw [r1,h2] at q;cases q⟩,he,h.sub htb.1 (by intro j hj;simp [hj]),g⟩;replace h1:t.kind≠27:=Zdh h1;refine IF (fun h3=>?_) fun h3=>?_;replace h3:t.kind=28:=Zch h3;obtain ⟨hl0,HX⟩:=HX h3;have es:synS F t S=((ckT F (Za t 0)).ex S).2:=by unfold synS;rw [Jyg h3];rfl
 have hx0:ckX F t 0=ckT F (Za t 0):=Xx hl0;obtain ⟨e0,p1,c1,hcell,hkid⟩:=Yr hk0 (i:=0) hl0;have hcN:=Xya hl0;have hsc1:=Uca t 1;have hsc0:sC t 1=0+cN t 0:=rfl;refine AU ?_;refine Y2 J Xj J J (CxM.to HX [b3,b4] h he hc hkid hb O (E.ltm Ob) g.size) ((fun ch w' hz=>Bad.pass hz (by rw [es];exact Er.refl _) (Aaa _) g)) ?_;rintro v40 w40 ⟨⟨p40,c40,rfl,q40,k40⟩,he1,h,g40⟩;refine ⟨nw1,?_⟩;have g:=gtw g g40;replace E:=E.gtx g40;obtain ⟨r1,r2⟩:=Ubg (x:=ckX F t) (S:=S) HF h3 (by rw [hx0];exact he1);rw [hx0] at r1 r2;refine AN fun _ _ ga _ g E=>?_;have hp8:=h;have k40:=Uj k40;have h:=Ui h;refine AS fun _ ga Ca g E=>?_;first|have h:=h.keep ga Ca O (.inl rfl)|have h:=h.keep ga Ca O (.inr ⟨by simp,fun hm=>by have:=htb2 _ hm;omega⟩)
 have k40:=k40.keep ga Oi;refine AU ?_;refine CL (Zbd ((ckT F (Za t 0)).ex S).1 _ t.text h) ?_;rintro _ _ ⟨rfl,ga⟩;refine RC fun g E=>?_;have h:=Uk h;have k40:=Uk k40;refine AN fun _ _ N9 _ g E=>?_;have hp9:=h;have k40:=k40.new N9;have h:=h.grow (N9.g);have h:=hp9.addX N9;refine AS fun _ ga Ca g E=>?_;first|have h:=h.keep ga Ca O (.inl rfl)|have h:=h.keep ga Ca O (.inr ⟨by simp,fun hm=>by have:=htb2 _ hm;omega⟩)
 have k40:=k40.keep ga Oi;refine AU ?_;refine CG (fun hc=>Wfa (fldR F ((ckT F (Za t 0)).ex S).1.ty t.text).1 _ h.laid.hL h.laid.hb) (fun w53 g53=>?_);have g:=gtg g g53;replace E:=E.grow g53;have h:=h.grow (g53);have k40:=k40.grow (g53);refine IF (fun h4=>?_) fun h4=>?_;(try simp only [bsimp] at h4);refine AU ?_;refine CL (Jr t _ _ _) ?_;rintro _ _ ⟨rfl,ga⟩;refine RC fun g E=>?_;have h:=Uk h;have k40:=Uk k40;refine AN fun b12 _ ga _ g E=>?_;have hp12:=h;have k40:=Uj k40;have h:=Ui h;refine AS fun _ ga Ca g E=>?_;first|have h:=h.keep ga Ca O (.inl rfl)|have h:=h.keep ga Ca O (.inr ⟨by simp,fun hm=>by have:=htb2 _ hm;omega⟩)
 have k40:=k40.keep ga Oi;refine AU ?_;refine Yx (rowR (some b12)) [0,1,0,3,1,3,1] [0,1,0,3,11,31,63] mix KR [0,1,2,3,4,5,6] J ?_;have g:=gtd g;replace E:=E.dr;have h:=h.grow (G.drew _);have k40:=k40.grow (G.drew _);refine Yg 0 J J (fun w1 hx=>Zo Zf (Zc J) J (fun _=>(E.g2.keep hx (fun h=>E.ne 2 0 J J J (Option.some.inj h))).row)) (Yg 2 J J (fun w1 hx=>Zo Zj (Zc J) J (fun _=>(E.g1.keep hx (fun h=>E.ne 1 0 J J J (Option.some.inj h))).row)) (Zm 1 J J ?_));refine Zl (L':=[3,4,5,6]) [0,1,0,3,2,3,2] J J J ?_;refine CN fun _ _ N59 l59 g E=>?_;have hp59:=h;have k40:=k40.new N59;have h:=h.grow (N59.g);refine Zs ((N59.g).only _) ?_;refine Zr 3 J J (fun _=>Zh Zg (Zc J)) (Zm 4 J J ?_);refine Zl (L':=[5,6]) [0,1,0,3,2,3,2] J J J ?_;refine AS fun _ hgS7 Ca g E=>?_;first|have h:=h.keep hgS7 Ca O (.inl rfl)|have h:=h.keep hgS7 Ca O (.inr ⟨by simp,fun hm=>by have:=htb2 _ hm;omega⟩)
 have k40:=k40.keep hgS7 Oi;refine Zs (hgS7) ?_;refine Zr 5 J J (fun _=>Zh Yh (Zc J)) (Zm 6 J J ?_);refine Zl (L':=[]) [0,1,0,3,2,3,2] J J J ?_;refine Xb J Xk (Zc J) (Zc J) J J E.g1 J J ?_;intro wS8 hgS8 _ BS;have C12:=E.g1;replace E:=E.s1 hgS8 BS;have g:=Yb g hgS8 O;first|have h:=h.keep hgS8 C12 O (.inl rfl)|have h:=h.keep hgS8 C12 O (.inr ⟨by simp,fun hm=>by have:=htb2 _ hm;omega⟩)
 have k40:=k40.keep hgS8 Oi;refine Zs (hgS8) ?_;refine TK [4,5,12] ?_;refine AS fun _ ga Ca g E=>?_;first|have h:=h.keep ga Ca O (.inl rfl)|have h:=h.keep ga Ca O (.inr ⟨by simp,fun hm=>by have:=htb2 _ hm;omega⟩)
 have k40:=k40.keep ga Oi;refine RTN ?_;rw [es];refine ⟨⟨annT t [_] _,_,_,_,by rw [r1,h4];rfl,fun q=>⟨(r2 q).symm,?_⟩⟩,he1,h.sub htb.1 (by intro j hj;simp [hj]),g⟩;exact Xh (t:=annT t [_] _) rfl (Zsa (ks:=[_]) ⟨l59,Jp E.g0⟩ E.g0.row (Ve (k40.kdN q40)) (Aaa _));refine AS fun _ ga Ca g E=>?_;first|have h:=h.keep ga Ca O (.inl rfl)|have h:=h.keep ga Ca O (.inr ⟨by simp,fun hm=>by have:=htb2 _ hm;omega⟩)
 refine RTN ?_;rw [es];exact ⟨⟨nd0,none,0,0,by rw [r1,h4];rfl,fun q=>by rw [r1,h4] at q;cases q⟩,he1,h.sub htb.1 (by intro j hj;simp [hj]),g⟩;replace h3:t.kind≠28:=Zdh h3;have es:synS F t S=S:=by unfold synS;rw [Jxg h3];rfl
 have r0:rcvR F t (ckX F t) S=(nd0,false):=by unfold rcvR;rw [Jxg h1,Jxg h3];rfl
 refine AS fun _ ga Ca g E=>?_;first|have h:=h.keep ga Ca O (.inl rfl)|have h:=h.keep ga Ca O (.inr ⟨by simp,fun hm=>by have:=htb2 _ hm;omega⟩)
 refine RTN ?_;rw [es,r0];exact ⟨⟨nd0,none,0,0,rfl,fun q=>by cases q⟩,he,h.sub htb.1 (by intro j hj;simp [hj]),g⟩
theorem PC.back{F:Nd}{n0 b:Nat}{TB X:List Nat}{r0:Option (List Ty)}{S T:CSt}{w:Aa}(h:PC F n0 b TB X r0 T w)(V:Vs S T)(q:Nq S T)(hr:T.result=S.result):PC F n0 b TB X r0 S w:=by
 obtain ⟨fv,ms,mg,mn,mf,pv,sv,cv,rv,vs,sc,h⟩:=h
 have e:T.next.take (S.level+1)=S.next.take (S.level+1):=by
  apply List.ext_getElem?;intro i;rw [Asa,Asa];by_cases hi:i<S.level+1;rw [if_pos hi,if_pos hi];exact q.nx i O;rw [if_neg hi,if_neg hi]
 have co:=h.co;have ro:=h.ro;rw [q.lv,e] at co;rw [hr] at ro;exact ⟨fv,ms,mg,mn,mf,pv,sv,cv,rv,vs,sc,h.B,h.hb,h.kF,h.hF,h.T,h.L,h.so,h.sr,h.fl.trans V.vars,h.sl.trans (by rw [V.scope]),h.ss,co,ro,(fun l e=>(h.rl l e).trans q.lv),h.tx,h.xl,h.bx,h.sx,h.vx,h.cx,h.rx,h.sz⟩
theorem Xfb(F t:Nd)(S:CSt):(ckT F t).ex S=exR F t (ckX F t) S:=by rw [Vm];rfl
theorem Ucg(F t:Nd)(S:CSt):(ckT F t).mem S=memR F t (ckX F t) S:=by rw [Vm];rfl
theorem Udg(F t:Nd)(S:CSt):(ckT F t).rcv S=rcvR F t (ckX F t) S:=by rw [Vm];rfl
theorem Uvc(F t:Nd)(S:CSt):(ckT F t).cal S=calR F t (ckX F t) S:=by rw [Vm];rfl
theorem Zwe{F t:Nd}(S:CSt)(hk:t.kind=28):exR F t (ckX F t) S=((memR F t (ckX F t) S).1.1,failU (!((memR F t (ckX F t) S).1.2 && !Vl (memR F t (ckX F t) S).1.1.ty)) t.pos 7 (memR F t (ckX F t) S).2):=by
 unfold exR;rw [Jxg O,Jxg O,Jxg O,Jxg O,Jxg O,Jxg O,Jyg hk];rfl
theorem Xyg{F t:Nd}{S:CSt}(hl:0<t.kids.length)(hl2:(Za t 0).kind=28→0<(Za t 0).kids.length)(h:((ckT F (Za t 0)).rcv S).2=true):rcvX t (ckX F t) S=(((ckT F (Za t 0)).rcv S).1,synS F (Za t 0) S):=by
 unfold rcvX synS;rw [Xx hl];cases hk:decide ((Za t 0).kind=28);rfl;have hk':=Zch hk;rw [Udg] at h ⊢;rw [Ucg,Zfh,Zfh];unfold rcvR at h ⊢;rw [Jxg (by omega:¬ (Za t 0).kind=27),hk,Zeh,Zfh] at h ⊢
 have h1:(memR F (Za t 0) (ckX F (Za t 0)) S).1.2=true:=by
  simp only [Aga] at h;exact h.1.1
 have h2:(memR F (Za t 0) (ckX F (Za t 0)) S).2=((ckX F (Za t 0) 0).ex S).2:=by
  unfold memR at h1 ⊢;dsimp only at h1 ⊢;cases hq:decide (((ckX F (Za t 0) 0).ex S).1.ty.kind=4);rw [hq] at h1;cases h1;rw [hq,Zfh] at h1
  cases hf:(Ug F ((ckX F (Za t 0) 0).ex S).1.ty.name).1.find? fun f=>decide (f.name=(Za t 0).text) with
  | none=>rw [hf] at h1;cases h1
  | some f=>rfl
 rw [h2,Xx (hl2 hk')]
theorem PC.addF{F:Nd}{n0 b:Nat}{TB X:List Nat}{r0:Option (List Ty)}{S:CSt}{w w':Aa}(h:PC F n0 b TB X r0 S w)(g:G w w'){Y:List Nat}(hY:∀ j∈Y,w.heap.size≤j∧j<w'.heap.size):PC F n0 b TB (Y++X) r0 S w':=by
 obtain ⟨fv,ms,mg,mn,mf,pv,sv,cv,rv,vs,sc,h⟩:=h;refine ⟨fv,ms,mg,mn,mf,pv,sv,cv,rv,vs,sc,?_⟩;have k:=h.grow g
 have hj:∀ {i:Nat},i<w.heap.size→i∉X→i∉Y++X:=fun hi hx hm=>by
  rcases Bca.1 hm with q|q;have:=hY _ q;omega;exact hx q
 exact ⟨k.B,k.hb,k.kF,k.hF,k.T,k.L,k.so,k.sr,k.fl,k.sl,k.ss,k.co,k.ro,k.rl,fun i hi=>List.mem_append_right _ (k.tx i hi),fun i hi=>by
  rcases Bca.1 hi with q|q;exact (hY _ q).2;exact k.xl i q,hj h.B.lt h.bx,fun i hi=>hj (h.so.lt i hi).2 (h.sx i hi),fun i v hv q hq=>hj (h.sr.lt hv q hq).2 (h.vx i v hv q hq),fun i hi=>hj (h.co.lt i hi).2 (h.cx i hi),fun i hi=>hj (h.ro.lt i hi).2 (h.rx i hi),h.sz⟩
theorem RowM.wide{TB Z:List Nat}{w:Aa}{l:List Ty}{v:Fa}(h:RowM TB w l v)(hz:∀ j∈TB,j∈Z):RowM Z w l v:=by
 obtain ⟨p,c,e,h⟩:=h;exact ⟨p,c,e,fun h0=>by obtain ⟨b,o,cs,fr,e,hb,h1⟩:=h h0;exact ⟨b,o,cs,fr,e,hz _ hb,h1⟩⟩
theorem Wcf(y:Ty)(s:List UInt8)(w:Aa)(hL:Laid w)(hb3:10≤w.heap.size):Ret PP 170 #[tyV y,Str s] w fun v w'=>MthT w.heap.size (mthF y s) v w'∧G w w':=by
 have g:=G.refl w;refine WK 86 [0,1] Tryz.func170 ?_;refine BM fun _ _ _ _ g E=>?_;refine AN fun _ _ _ _ g E=>?_;refine AN fun _ _ _ _ g E=>?_;refine AU ?_;refine CP (Ysc _ _ (hL.grow g) (by have:=g.size;omega)) (fun w10 g10=>?_);have g:=g.trans g10;replace E:=E.grow g10;refine IF (fun h1=>?_) fun h1=>?_;(try simp only [bsimp] at h1);refine AU ?_;refine Xg [0,3,2,3] [true,true,true,true] [0,0,3,7] mix KR ?_;have g:=gdr g;replace E:=E.dr;refine AS fun _ _ _ g E=>?_;refine RTN ?_;refine ⟨?_,g⟩;unfold mthF;simp only [Qxa,h1,Zfh,Zeh]
 first
 | exact ⟨_,rfl,Jq⟩
 | exact ⟨_,rfl,Wt (l:=[_]) (by first|assumption|exact E.g 0 rfl) rfl (by first|assumption|omega)⟩
 | exact ⟨_,rfl,Wt (l:=[_,_]) (by first|assumption|exact E.g 0 rfl) rfl (by first|assumption|omega)⟩
 refine AN fun _ _ _ _ g E=>?_;refine AS fun _ _ _ g E=>?_;refine IF (fun h2=>?_) fun h2=>?_;(try simp only [bsimp] at h2);refine AU ?_;refine Xg [0,3,3,3,3,3,3,3,2,3] [true,true,true,true,true,true,true,true,true,true] [0,0,2,6,14,30,62,14,143,511] mix KR ?_;have g:=gdr g;replace E:=E.dr;refine AS fun _ _ _ g E=>?_;refine RTN ?_;refine ⟨?_,g⟩;unfold mthF;simp only [Qxa,h1,h2,Zfh,Zeh]
 first
 | exact ⟨_,rfl,Jq⟩
 | exact ⟨_,rfl,Wt (l:=[_]) (by first|assumption|exact E.g 0 rfl) rfl (by first|assumption|omega)⟩
 | exact ⟨_,rfl,Wt (l:=[_,_]) (by first|assumption|exact E.g 0 rfl) rfl (by first|assumption|omega)⟩
 refine IF (fun h3=>?_) fun h3=>?_;(try simp only [bsimp] at h3);refine AU ?_;refine Xg [0,3,3,3,3,3,3,3,3,3,3,3,3,3,3,3,2,3] [true,true,true,true,true,true,true,true,true,true,true,true,true,true,true,true,true,true] [0,0,2,6,14,30,62,126,254,510,1022,2046,4094,8190,16382,4094,36863,131071] mix KR ?_;have g:=gdr g;replace E:=E.dr;refine AS fun _ _ _ g E=>?_;refine RTN ?_;refine ⟨?_,g⟩;unfold mthF;simp only [Qxa,h1,h2,h3,Zfh,Zeh]
 first
 | exact ⟨_,rfl,Jq⟩
 | exact ⟨_,rfl,Wt (l:=[_]) (by first|assumption|exact E.g 0 rfl) rfl (by first|assumption|omega)⟩
 | exact ⟨_,rfl,Wt (l:=[_,_]) (by first|assumption|exact E.g 0 rfl) rfl (by first|assumption|omega)⟩
 refine IF (fun h4=>?_) fun h4=>?_;(try simp only [bsimp] at h4);refine IF (fun h5=>?_) fun h5=>?_;(try simp only [bsimp] at h5);refine AU ?_;skip;refine Xg [0,1,0,3,2,3] [true,true,false,true,true,true] [0,1,0,3,15,31] mix KR ?_;have g:=gdr g;replace E:=E.dr;have EC:=E;refine CN fun _ _ _ _ g E=>?_;refine Yac J (Zo Zj (Zc J) J (fun _=>EC.g1.row)) ?_;refine AS fun _ _ _ g E=>?_;refine RTN ?_;refine ⟨?_,g⟩;unfold mthF;simp only [Qxa,h1,h2,h3,h4,h5,Zfh,Zeh]
 first
 | exact ⟨_,rfl,Jq⟩
 | exact ⟨_,rfl,Wt (l:=[_]) (by first|assumption|exact E.g 0 rfl) rfl (by first|assumption|omega)⟩
 | exact ⟨_,rfl,Wt (l:=[_,_]) (by first|assumption|exact E.g 0 rfl) rfl (by first|assumption|omega)⟩
 refine AU ?_;refine Xg [0,3,3,3,3,3,3,3,2,3] [true,true,true,true,true,true,true,true,true,true] [0,0,2,6,14,30,62,14,143,511] mix KR ?_;have g:=gdr g;replace E:=E.dr;refine AS fun _ _ _ g E=>?_;refine RTN ?_;refine ⟨?_,g⟩;unfold mthF;simp only [Qxa,h1,h2,h3,h4,h5,Zfh,Zeh]
 first
 | exact ⟨_,rfl,Jq⟩
 | exact ⟨_,rfl,Wt (l:=[_]) (by first|assumption|exact E.g 0 rfl) rfl (by first|assumption|omega)⟩
 | exact ⟨_,rfl,Wt (l:=[_,_]) (by first|assumption|exact E.g 0 rfl) rfl (by first|assumption|omega)⟩
 refine IF (fun h6=>?_) fun h6=>?_;(try simp only [bsimp] at h6);refine IF (fun h7=>?_) fun h7=>?_;(try simp only [bsimp] at h7);refine AU ?_;skip;refine Xg [3,1,0,3,2,3] [true,true,false,true,true,true] [0,1,0,3,15,31] mix KR ?_;have g:=gdr g;replace E:=E.dr;have EC:=E;refine CN fun _ _ _ _ g E=>?_;refine Yac J (Zo Zj (Zc J) J (fun _=>EC.g1.row)) ?_;refine AS fun _ _ _ g E=>?_;refine RTN ?_;refine ⟨?_,g⟩;unfold mthF;simp only [Qxa,h1,h2,h3,h4,h6,h7,Zfh,Zeh]
 first
 | exact ⟨_,rfl,Jq⟩
 | exact ⟨_,rfl,Wt (l:=[_]) (by first|assumption|exact E.g 0 rfl) rfl (by first|assumption|omega)⟩
 | exact ⟨_,rfl,Wt (l:=[_,_]) (by first|assumption|exact E.g 0 rfl) rfl (by first|assumption|omega)⟩
 refine AU ?_;refine Xg [0,3,2,3] [true,true,true,true] [0,0,3,7] mix KR ?_;have g:=gdr g;replace E:=E.dr;refine AS fun _ _ _ g E=>?_;refine RTN ?_;refine ⟨?_,g⟩;unfold mthF;simp only [Qxa,h1,h2,h3,h4,h6,h7,Zfh,Zeh]
 first
 | exact ⟨_,rfl,Jq⟩
 | exact ⟨_,rfl,Wt (l:=[_]) (by first|assumption|exact E.g 0 rfl) rfl (by first|assumption|omega)⟩
 | exact ⟨_,rfl,Wt (l:=[_,_]) (by first|assumption|exact E.g 0 rfl) rfl (by first|assumption|omega)⟩
 refine IF (fun h8=>?_) fun h8=>?_;(try simp only [bsimp] at h8);refine IF (fun h9=>?_) fun h9=>?_;(try simp only [bsimp] at h9);refine AU ?_;refine Xg [0,3,2,3] [true,true,true,true] [0,0,3,7] mix KR ?_;have g:=gdr g;replace E:=E.dr;refine AS fun _ _ _ g E=>?_;refine RTN ?_;refine ⟨?_,g⟩;unfold mthF;simp only [Qxa,h1,h2,h3,h4,h6,h8,h9,Zfh,Zeh]
 first
 | exact ⟨_,rfl,Jq⟩
 | exact ⟨_,rfl,Wt (l:=[_]) (by first|assumption|exact E.g 0 rfl) rfl (by first|assumption|omega)⟩
 | exact ⟨_,rfl,Wt (l:=[_,_]) (by first|assumption|exact E.g 0 rfl) rfl (by first|assumption|omega)⟩
 refine IF (fun h10=>?_) fun h10=>?_;(try simp only [bsimp] at h10);refine AU ?_;skip;refine Xg [0,1,0,3,2,3] [true,true,false,true,true,true] [0,1,0,3,15,31] mix KR ?_;have g:=gdr g;replace E:=E.dr;have EC:=E;refine CN fun _ _ _ _ g E=>?_;refine Yac J (Zo Zj (Zc J) J (fun _=>EC.g1.row)) ?_;refine AS fun _ _ _ g E=>?_;refine RTN ?_;refine ⟨?_,g⟩;unfold mthF;simp only [Qxa,h1,h2,h3,h4,h6,h8,h9,h10,Zfh,Zeh]
 first
 | exact ⟨_,rfl,Jq⟩
 | exact ⟨_,rfl,Wt (l:=[_]) (by first|assumption|exact E.g 0 rfl) rfl (by first|assumption|omega)⟩
 | exact ⟨_,rfl,Wt (l:=[_,_]) (by first|assumption|exact E.g 0 rfl) rfl (by first|assumption|omega)⟩
 refine IF (fun h11=>?_) fun h11=>?_;(try simp only [bsimp] at h11);refine AU ?_;skip;refine Xg [0,1,0,3,2,3] [true,true,false,true,true,true] [0,1,0,3,15,31] mix KR ?_;have g:=gdr g;replace E:=E.dr;have EC:=E;refine CN fun _ _ _ _ g E=>?_;refine Yac J (Zo Zj (Zc J) J (fun _=>EC.g0.row)) ?_;refine AS fun _ _ _ g E=>?_;refine RTN ?_;refine ⟨?_,g⟩;unfold mthF;simp only [Qxa,h1,h2,h3,h4,h6,h8,h9,h10,h11,Zfh,Zeh]
 first
 | exact ⟨_,rfl,Jq⟩
 | exact ⟨_,rfl,Wt (l:=[_]) (by first|assumption|exact E.g 0 rfl) rfl (by first|assumption|omega)⟩
 | exact ⟨_,rfl,Wt (l:=[_,_]) (by first|assumption|exact E.g 0 rfl) rfl (by first|assumption|omega)⟩
 refine IF (fun h12=>?_) fun h12=>?_;(try simp only [bsimp] at h12);refine CN fun _ _ _ _ g E=>?_;refine AS fun _ _ _ g E=>?_;refine RTN ?_;refine ⟨?_,g⟩;unfold mthF;simp only [Qxa,h1,h2,h3,h4,h6,h8,h9,h10,h11,h12,Zfh,Zeh]
 first
 | exact ⟨_,rfl,Jq⟩
 | exact ⟨_,rfl,Wt (l:=[_]) (by first|assumption|exact E.g 0 rfl) rfl (by first|assumption|omega)⟩
 | exact ⟨_,rfl,Wt (l:=[_,_]) (by first|assumption|exact E.g 0 rfl) rfl (by first|assumption|omega)⟩
 refine AU ?_;refine Xg [0,3,2,3] [true,true,true,true] [0,0,3,7] mix KR ?_;have g:=gdr g;replace E:=E.dr;refine AS fun _ _ _ g E=>?_;refine RTN ?_;refine ⟨?_,g⟩;unfold mthF;simp only [Qxa,h1,h2,h3,h4,h6,h8,h9,h10,h11,h12,Zfh,Zeh]
 first
 | exact ⟨_,rfl,Jq⟩
 | exact ⟨_,rfl,Wt (l:=[_]) (by first|assumption|exact E.g 0 rfl) rfl (by first|assumption|omega)⟩
 | exact ⟨_,rfl,Wt (l:=[_,_]) (by first|assumption|exact E.g 0 rfl) rfl (by first|assumption|omega)⟩
 refine AU ?_;refine Xg [0,3,2,3] [true,true,true,true] [0,0,3,7] mix KR ?_;have g:=gdr g;replace E:=E.dr;refine AS fun _ _ _ g E=>?_;refine RTN ?_;refine ⟨?_,g⟩;unfold mthF;simp only [Qxa,h1,h2,h3,h4,h6,h8,Zfh,Zeh]
 first
 | exact ⟨_,rfl,Jq⟩
 | exact ⟨_,rfl,Wt (l:=[_]) (by first|assumption|exact E.g 0 rfl) rfl (by first|assumption|omega)⟩
 | exact ⟨_,rfl,Wt (l:=[_,_]) (by first|assumption|exact E.g 0 rfl) rfl (by first|assumption|omega)⟩
theorem Wae(F t:Nd)(x:Nat→Ck)(S:CSt):Er ((x 0).ex S).2 (memR F t x S).2:=by
 unfold memR;dsimp only;cases decide (((x 0).ex S).1.ty.kind=4);exact fun hn=>(Jb _ _ _).2.2.2.2.2 hn;rw [Zfh]
 cases (Ug F ((x 0).ex S).1.ty.name).1.find? fun f=>decide (f.name=t.text) with
 | none=>exact fun hn=>(Jb _ _ _).2.2.2.2.2 hn
 | some f=>exact Er.refl _
theorem Zug{F t:Nd}{S:CSt}(hk:t.kind=28)(hl:0<t.kids.length)(hl2:(Za t 0).kind=28→0<(Za t 0).kids.length):Er (synS F (Za t 0) S) ((ckT F t).cal S).2:=by
 rw [Uvc];unfold calR;cases hr:((ckX F t 0).rcv S).2;rw [Jyg hk,Bka,Zeh,Jxg (by omega:¬ t.kind=27),Ama,Zeh];refine Er.failu ?_ _ _ _;rw [Zwe S hk];refine Er.failu (Er.trans ?_ (Wae F t (ckX F t) S)) _ _ _;rw [Xx hl];unfold synS;cases h:decide ((Za t 0).kind=28);exact ((Uh F (Za t 0)).ex S).e;have h':=Zch h;rw [Xfb F (Za t 0),Zwe S h',Zfh];refine Er.failu ?_ _ _ _;have:=Wae F (Za t 0) (ckX F (Za t 0)) S;rwa [Xx (hl2 h')] at this;rw [Jyg hk,Bool.and_true,Zfh];refine Er.failu ?_ _ _ _;rw [Xx hl] at hr;rw [Xyg hl hl2 hr];exact Er.refl _
theorem Wdf{F k:Nd}{n0 b:Nat}{TB X:List Nat}{r0:Option (List Ty)}{S:CSt}{w:Aa}(h:PC F n0 b TB X r0 (synS F k S) w)(hs:Sc S)(hl:Ln S):PC F n0 b TB X r0 S w:=by
 refine h.back (((Jma F _).ex S hs).cond (Vs.refl S)) (((ckn_t F _).ex S hl).cond (Nq.refl hl)) ?_;unfold synS;cases decide (k.kind=28);rfl;exact ((Uh F _).ex S).result
theorem RowM.grow{Y:List Nat}{w w':Aa}{l:List Ty}{v:Fa}(h:RowM Y w l v)(g:G w w'):RowM Y w' l v:=h.same fun _ _ hlt _=>g.block hlt
theorem RowM.keep{Y:List Nat}{w w':Aa}{l:List Ty}{v:Fa}{j:Nat}(h:RowM Y w l v)(hg:w.grownBy w' (some j))(hj:j∉Y):RowM Y w' l v:=h.same fun b hb hlt _=>hg.block b hlt fun e=>by
 injection e with e;subst e;exact hj hb
theorem Wef{F:Nd}{n0 b:Nat}{TB X:List Nat}{r0:Option (List Ty)}{S:CSt}{w:Aa}(h:PC F n0 b TB X r0 S w)(y:Ty)(s:List UInt8)(Z:List Nat)(hZ:∀ j∈Z,j<w.heap.size):Ret PP 170 #[tyV y,Str s] w fun r w'=>(∃ p k c Y,r = .tuple #[.slice p k c,tyV (mthF y s).2.1,.bool (mthF y s).2.2]∧(∀ j∈Z,j∉Y)∧PC F n0 b TB (Y++X) r0 S w'∧RowM Y w' (mthF y s).1 (.slice p k c))∧G w w' :=
 (Wcf y s w h.laid.hL h.laid.hb).mono fun r w' hr=>by
 obtain ⟨⟨l,e,p,c,rfl,h1⟩,g⟩:=hr;refine ⟨?_,g⟩;by_cases h0:0<(mthF y s).1.length;obtain ⟨k,o,cs,fr,e1,⟨hk,_⟩,hh,hR⟩:=h1 h0
 exact ⟨p,_,c,[k],e,fun j hj hm=>by rw [Ata] at hm;subst hm;have:=hZ _ hj;omega,h.addF g (fun j hj=>by
  rw [Ata] at hj;subst hj;exact ⟨hk,(Axa.1 hh).1⟩),p,c,rfl,fun _=>⟨k,o,cs,fr,e1,Ata.2 rfl,hh,hR⟩⟩
 exact ⟨p,_,c,[],e,fun j hj hm=>(by cases hm),h.grow g,p,c,rfl,fun q=>absurd q h0⟩
theorem Wff{F t:Nd}{S:CSt}(hk:t.kind=28)(hl:0<t.kids.length)(hl2:(Za t 0).kind=28→0<(Za t 0).kids.length)(h:((ckT F (Za t 0)).rcv S).2=true):(ckT F t).cal S=((annT t [((ckT F (Za t 0)).rcv S).1] ty0,(mthF ((ckT F (Za t 0)).rcv S).1.ty t.text).1,(mthF ((ckT F (Za t 0)).rcv S).1.ty t.text).2.1),failU (mthF ((ckT F (Za t 0)).rcv S).1.ty t.text).2.2 t.pos 5 (synS F (Za t 0) S)):=by
 rw [Uvc];unfold calR;rw [Jyg hk,Xx hl,h,Bool.and_true,Zfh,Xyg hl hl2 h]
theorem Uwc{F t:Nd}{S:CSt}(h1:(decide (t.kind=28)&&((ckX F t 0).rcv S).2)=false)(h2:(decide (t.kind=27)&&((lookR F S t).2&&decide ((lookR F S t).1.ref=3)))=false)(hc:Can ((ckT F t).ex S).1.ty):(ckT F t).cal S=((((ckT F t).ex S).1,[],ty0),wantS ((ckT F t).ex S).1 7 t.pos ((ckT F t).ex S).2):=by
 rw [Uvc,Xfb F t];rw [Xfb F t] at hc;unfold calR wantS;rw [h1,h2,← Qub hc Od];rfl
theorem Ueg{F t:Nd}{S:CSt}(HF:FW F)(hk:t.kind=27)(h:(!(findV S.vars t.text).isSome&&fncB F t.text)=true):(lookR F S t).2=true∧(lookR F S t).1.kids=[]∧(ckT F t).cal S=(((lookR F S t).1,parT (findD F 4 t.text).1,resT (findD F 4 t.text).1),S):=by
 simp only [Aga,Bool.not_eq_true'] at h;have hv:findV S.vars t.text=none:=by simpa using h.1
 have hq:0≤(findD F 4 t.text).2:=Zch h.2
 have hg:(glbF F t.text).2=false:=by
  unfold glbF;rw [Jxg (by intro q;have:=HF.one _ q;omega)];rfl
 have e:=Zic (F:=F) (S:=S) (t:=t) hv hg;rw [h.2,Zfh] at e;refine ⟨by rw [e],Xhc F S t,?_⟩;rw [Uvc];unfold calR;rw [Jxg O,Ama,Zeh,Jyg hk,e];rfl
theorem Zvg{F t:Nd}{S:CSt}(h:(!(findV S.vars t.text).isSome&&fncB F t.text)=false):((lookR F S t).2&&decide ((lookR F S t).1.ref=3))=false:=by
 cases hv:findV S.vars t.text with
 | some v=>rw [Xec hv];rfl
 | none =>
  rw [hv] at h;cases hg:(glbF F t.text).2;rw [Zic hv hg,show fncB F t.text=false from by simpa using h];rfl;rw [Xfc hv hg];rfl
theorem Wgf{w w':Aa}{b:Nat}{e:Ba}{l:List Fa}(hg:w.grownBy w' (some b))(h:Blk w b e l)(h':Blk w' b e l):G w w' :=
 ⟨hg.os,hg.tape,hg.output,hg.size,fun k hk=>by
 by_cases q:k=b;subst q;exact h'.trans h.symm;exact hg.block k hk fun e=>q (Option.some.inj e)⟩
structure OutG (X:List Nat) (w w':Aa):Prop where
  os:w'.os=w.os
  tape:w'.tape=w.tape
  output:w'.output=w.output
  size:w.heap.size≤w'.heap.size
  block:∀ k,k<w.heap.size→k∉X→w'.heap[k]? = w.heap[k]?
theorem OutG.refl(X:List Nat)(w:Aa):OutG X w w:=⟨rfl,rfl,rfl,Aaa _,fun _ _ _=>rfl⟩
theorem OutG.trans{X:List Nat}{a b c:Aa}(h:OutG X a b)(k:OutG X b c):OutG X a c :=
 ⟨k.os.trans h.os,k.tape.trans h.tape,k.output.trans h.output,Aea h.size k.size,fun i hi hx=>(k.block i (Aoa hi h.size) hx).trans (h.block i hi hx)⟩
@[reducible] def outR(X:List Nat):RelX:=⟨fun w w'=>OutG X w w',OutG.refl X,fun h k=>OutG.trans h k⟩
theorem OutG.of_g{X:List Nat}{w w':Aa}(g:G w w'):OutG X w w':=⟨g.os,g.tape,g.output,g.size,fun k hk _=>g.block hk⟩
theorem OutG.of_row{X:List Nat}{w w':Aa}{b:Nat}(hg:w.grownBy w' (some b))(hb:b∈X):OutG X w w':=⟨hg.os,hg.tape,hg.output,hg.size,fun k hk hx=>hg.block k hk fun e=>hx (by injection e with e;rw [e];exact hb)⟩
theorem Blk.out{X:List Nat}{w w':Aa}{b:Nat}{e:Ba}{l:List Fa}(h:Blk w b e l)(g:OutG X w w')(hb:b∉X):Blk w' b e l:=(g.block b h.lt hb).trans h
theorem Uxc{b:Nat}:b∉([]:List Nat):=fun h=>by cases h
theorem Uyc{b a:Nat}{X:List Nat}(h:b≠a)(k:b∉X):b∉a::X:=fun hm=>by
 rcases Aqa.1 hm with q|q;exact h q;exact k q
def CalM(M:Nat)(F t:Nd):Prop:=∀ {n0 b:Nat} {TB X:List Nat} {r0:List Ty} {S:CSt} {w:Aa} {v:Fa} {N:Nat},PC F n0 b TB X (some r0) S w→S.ee=0→CanV S→Kd w (fun k=>k<n0) t.kids v→Bd S N→N+count t≤M→
 RetP PP 161 #[.pointer (some ⟨b,0,none⟩),ndV t v] w (fun r w'=>((ckT F t).cal S).2.ee=0∧(∃ u l Z,r = .tuple #[u,l,tyV ((ckT F t).cal S).1.2.2]∧RetN ((ckT F t).cal S).1.1 w.heap.size u w'∧(∀ j∈X,j∈Z)∧PC F n0 b TB Z (some r0) ((ckT F t).cal S).2 w'∧RowM Z w' ((ckT F t).cal S).1.2.1 l)∧GT (mutC X) n0 w w') (Bad n0 b X (S.scope+1) ((ckT F t).cal S).2 w)
theorem Whf{t:Nd}{lo:Nat}{v:Fa}{w:Aa}(h:RetN t lo (ndV t v) w):KdN lo w t.kids v:=by
 obtain ⟨p,c,e,k⟩:=h
 have e:v = .slice p t.kids.length c:=by
  injection e with e;have:=congrArg (fun a:Array Fa=>a[4]?) e;simpa [ndCells] using this
 rw [e];exact k
theorem Qw{M:Nat}{F t:Nd}{f:CSt→Nd×CSt}(H:CxM M F 113 t f)(HF:Fx f){k:Int}(hk4:k≠4){n0 b:Nat}{TB X:List Nat}{r0:List Ty}{S:CSt}{w:Aa}{v:Fa}{N m0:Nat}(Z:List Nat)(h:PC F n0 b TB X (some r0) S w)(he:S.ee=0)(hc:CanV S)(hk0:Kd w (fun k=>k<n0) t.kids v)(hb:Bd S N)(hn:N+count t≤M)(hZ:∀ j∈Z,j<w.heap.size)(hm:m0≤w.heap.size) :
 RetP PP 114 #[.pointer (some ⟨b,0,none⟩),ndV t v,tyV ⟨k,[]⟩] w (fun r w'=>(∃ p c,r=ndV (f S).1 (.slice p (f S).1.kids.length c)∧m0≤w.heap.size∧KdX w.heap.size Z w' (f S).1.kids (.slice p (f S).1.kids.length c))∧(wantS (f S).1 k t.pos (f S).2).ee=0∧wantS (f S).1 k t.pos (f S).2=(f S).2∧PC F n0 b TB X (some r0) (f S).2 w'∧GT (mutC X) n0 w w') (Bad n0 b X (S.scope+1) (wantS (f S).1 k t.pos (f S).2) w) :=
 (Waf H HF hk4 h he hc hk0 hb hn).mono (fun r w' hr=>by
 obtain ⟨h0,h1,⟨p,c,e,k⟩,h2,h3⟩:=hr;exact ⟨⟨p,c,e,hm,KdN.x k hZ⟩,h0,h1,h2,h3⟩) fun _ _ h=>h
theorem Yzb{M:Nat}{F t:Nd}{f:CSt→Nd×CSt}(H:CxM M F 113 t f)(HF:Fx f)(y:Ty){n0 b:Nat}{TB X:List Nat}{r0:List Ty}{S:CSt}{w:Aa}{v:Fa}{N m0:Nat}(Z:List Nat)(h:PC F n0 b TB X (some r0) S w)(he:S.ee=0)(hc:CanV S)(hk0:Kd w (fun k=>k<n0) t.kids v)(hb:Bd S N)(hn:N+count t≤M)(hZ:∀ j∈Z,j<w.heap.size)(hm:m0≤w.heap.size) :
 RetP PP 112 #[.pointer (some ⟨b,0,none⟩),ndV t v,tyV y] w (fun r w'=>(∃ p c,r=ndV (f S).1 (.slice p (f S).1.kids.length c)∧m0≤w.heap.size∧KdX w.heap.size Z w' (f S).1.kids (.slice p (f S).1.kids.length c))∧(failU (Vg y (f S).1.ty) t.pos 7 (f S).2).ee=0∧failU (Vg y (f S).1.ty) t.pos 7 (f S).2=(f S).2∧PC F n0 b TB X (some r0) (f S).2 w'∧GT (mutC X) n0 w w') (Bad n0 b X (S.scope+1) (failU (Vg y (f S).1.ty) t.pos 7 (f S).2) w) :=
 (Zve H HF y h he hc hk0 hb hn).mono (fun r w' hr=>by
 obtain ⟨h0,h1,⟨p,c,e,k⟩,h2,h3⟩:=hr;exact ⟨⟨p,c,e,hm,KdN.x k hZ⟩,h0,h1,h2,h3⟩) fun _ _ h=>h
theorem Zxe{F t:Nd}(HF:FW F)(FX:Fx (ckT F t).ex)(HX:CxM 1000000 F 113 t (ckT F t).ex)(hl:t.kind=28→0<t.kids.length)(HX0:t.kind=28→(Za t 0).kind=28→0<(Za t 0).kids.length∧CxM 1000000 F 113 (Za (Za t 0) 0) (ckT F (Za (Za t 0) 0)).ex):CalM 1000000 F t:=by
 intro n0 b TB X r0 S w v N h he hc hk0 hb hn;obtain ⟨p,c,rfl,_⟩:=id hk0;have hlt:=h.lt;have htb:=h.tb;have hs:=h.scs;have htb2:∀ j∈TB,j<w.heap.size:=fun j hj=>htb.2 j (htb.1 j hj);have ec:=Uvc F t S;have g:=GT.refl (mutC X) n0 w;refine Vd (m:=68) Tryz.func161 J J [(0,True,_),(1,True,_)] (Zb J (Zb J (Zq _))) ?_;refine BM fun b3 _ ga _ g E=>?_;have hp3:=h;have h:=Ui h;have hk0:=Ui hk0;refine AN fun b4 _ ga _ g E=>?_;have hp4:=h;have h:=Ui h;have hk0:=Ui hk0;refine AN fun b6 w6 N6 _ g E=>?_;have hp6:=h;have h:=h.grow (N6.g);have hk0:=hk0.grow (N6.g);have h:=hp6.addX N6;refine IF (fun h1=>?_) fun h1=>?_
 ·replace h1:t.kind=28:=Zch h1
  have hl0:=hl h1;obtain ⟨e0,p1,c1,hcell,hkid⟩:=Yr hk0 (i:=0) hl0;have hcN:=Xya hl0;have hsc1:=Uca t 1;have hsc0:sC t 1=0+cN t 0:=rfl;refine AU ?_;have hZ20:∀ j∈[b3,b4,b6],j<w6.heap.size:=E.ltm Ob;have hq20:=g.size;refine Y2 J Xma J J (Wbf HF (HX0 h1) h he hc hkid hb O) ((fun ch w' hz=>Bad.pass hz (Zug h1 hl0 (fun q=>(HX0 h1 q).1)) (Aaa _) g)) ?_;rintro v20 w20 ⟨⟨x20,m20,z20,q20,rfl,k20⟩,he1,h,g20⟩;refine ⟨nw1,?_⟩;have g:=gtw g g20;replace E:=E.gtx g20;have kf20:=fun q=>KdN.x (Whf (k20 q).2) hZ20;have hk0:=hk0.gt g20 (fun k h=>h);refine AN fun b7 _ ga _ g E=>?_;have hp7:=h;have kf20:=fun q=>(kf20 q).new ga;have h:=Ui h;have hk0:=Ui hk0;refine AS fun _ ga Ca g E=>?_;first|have h:=h.keep ga Ca O (.inl rfl)|have h:=h.keep ga Ca O (.inr ⟨by simp,fun hm=>by have:=htb2 _ hm;omega⟩)
  have hk0:=Ud hk0;have kf20:=fun q=>(kf20 q).keep ga Oi;refine IF (fun h2=>?_) fun h2=>?_
  ·obtain ⟨hx20,k20⟩:=k20 h2
   have kd20:=kf20 h2;subst hx20;have es:=Wff h1 hl0 (fun q=>(HX0 h1 q).1) h2;have hsc2:(synS F (Za t 0) S).scope=S.scope:=by unfold synS;cases decide ((Za t 0).kind=28) <;> first|rfl|exact ((Uh F _).ex S).scope
   refine AU ?_;refine CL (Wef h ((ckT F (Za t 0)).rcv S).1.ty t.text [b3,b4,b6,b7] (E.ltm Ob)) ?_;rintro _ _ ⟨⟨p29,z29,c29,Y,rfl,hY,hz,hM⟩,ga⟩;refine RC fun g E=>?_;have h:=Uk h;have kd20:=Uk kd20;have kf20:=fun q=>(kf20 q).grow (ga);refine AS fun _ ga Ca g E=>?_;first|have h:=h.keep ga Ca O (.inl rfl)|have h:=h.keep ga Ca O (.inr ⟨by simp,fun hm=>by have:=htb2 _ hm;omega⟩)
   have kd20:=kd20.keep ga Oi;have kf20:=fun q=>(kf20 q).keep ga Oi;have hz:=(by first|exact hz.keep ga Ca O (.inl rfl)|exact hz.keep ga Ca O (.inr ⟨by simp,fun hm=>by have:=htb2 _ hm;omega⟩):PC F n0 b TB _ (some r0) _ _);have hM:=hM.keep ga (hY _ Os);refine AU ?_;refine Y3 J Yd J J J (Wy _ _ _ _) ((fun ch w' hz'=>Un (h.sub (Y:=X) htb.1 (by intro j hj;simp [hj])) he1 Od (by rw [es];exact Er.refl _) hz' g (by rw [hsc2];exact Aaa _))) ?_;rintro _ _ ⟨rfl,hq,ga⟩;refine RC fun g E=>?_;have h:=Uk h;have hz:=Uk hz;have hM:=Uk hM;have kd20:=Uk kd20;refine AU ?_;refine CL (Jr t _ _ _) ?_;rintro _ _ ⟨rfl,ga⟩;refine RC fun g E=>?_;have h:=Uk h;have kd20:=Uk kd20;have hz:=Uk hz;have hM:=Uk hM;refine AS fun _ ga Ca g E=>?_;first|have h:=h.keep ga Ca O (.inl rfl)|have h:=h.keep ga Ca O (.inr ⟨by simp,fun hm=>by have:=htb2 _ hm;omega⟩)
   have kd20:=kd20.keep ga Oi;have hz:=(by first|exact hz.keep ga Ca O (.inl rfl)|exact hz.keep ga Ca O (.inr ⟨by simp,fun hm=>by have:=htb2 _ hm;omega⟩):PC F n0 b TB _ (some r0) _ _);have hM:=hM.keep ga (hY _ Os);refine CN fun _ _ ga l40 g E=>?_;have hp40:=h;have kd20:=Uj kd20;have h:=Ui h;have hz:=Ui hz;have hM:=Ui hM;refine AS fun _ ga Ca g E=>?_;first|have h:=h.keep ga Ca O (.inl rfl)|have h:=h.keep ga Ca O (.inr ⟨by simp,fun hm=>by have:=htb2 _ hm;omega⟩)
   have kd20:=kd20.keep ga Oi;have hz:=(by first|exact hz.keep ga Ca O (.inl rfl)|exact hz.keep ga Ca O (.inr ⟨by simp,fun hm=>by have:=htb2 _ hm;omega⟩):PC F n0 b TB _ (some r0) _ _);have hM:=hM.keep ga (hY _ Os);refine AU ?_;refine Yx (rowR none) [0,3,0,1,3,1] [0,0,0,1,11,31] mix KR [0,1,2,3,4,5] J ?_;have g:=gtd g;replace E:=E.dr;have h:=h.grow (G.drew _);have kd20:=kd20.grow (G.drew _);have kf20:=fun q=>(kf20 q).grow (G.drew _);have hz:=hz.grow (G.drew _);have hM:=hM.grow (G.drew _);refine Yg 0 J J (fun w1 hx=>Zo Zf (Zc J) J (fun _=>(E.g3.keep hx (fun h=>nomatch h)).row)) (Zr 1 J J (fun _=>Zw (Zc J)) (Yg 2 J J (fun w1 hx=>Zo Zj (Zc J) J (fun _=>(E.g2.keep hx (fun h=>nomatch h)).row)) (Zm 3 J J ?_)));refine Zl (L':=[4,5]) [0,3,0,2,3,2] J J J ?_;refine Zra Yk J J J E.g3 ?_;intro wS5 hgS5 _ BS;have gS5:=Wgf hgS5 E.g3 BS;have g:=gtg g gS5;replace E:=E.grow gS5;have kd20:=kd20.grow (gS5);have hz:=hz.grow (gS5);have hM:=hM.grow (gS5);refine Zs (gS5.only _) ?_;refine Zr 4 J J (fun _=>Ji (Zc J)) (Zm 5 J J ?_);refine Zl (L':=[]) [0,3,0,2,3,2] J J J ?_;refine Zra Xk J J J E.g2 ?_;intro wS6 hgS6 _ BS;have gS6:=Wgf hgS6 E.g2 BS;have g:=gtg g gS6;replace E:=E.grow gS6;have kd20:=kd20.grow (gS6);have hz:=hz.grow (gS6);have hM:=hM.grow (gS6);refine Zs (gS6.only _) ?_;refine TK [0,3,4,5,6] ?_;refine RTN ?_;rw [es,hq];exact ⟨he1,⟨_,_,Y++_,rfl,Xh (t:=annT t [_] ty0) rfl (Zsa (ks:=[_]) ⟨l40,Jp E.g0⟩ E.g0.row (Ve (kd20.kdN hq20)) (Aaa _)),fun j hj=>by simp [hj],hz,hM.wide (fun j hj=>by simp [hj])⟩,g⟩
  have h:=Wdf h hs hb.lv;have hcal:(decide (t.kind=28)&&((ckX F t 0).rcv S).2)=false:=by rw [Xx hl0,h2,Bka]
  have e:=Uwc hcal (by rw [Jxg (by omega:¬ t.kind=27),Ama]) (FX.can S hs hc);refine IF (fun h3=>?_) fun h3=>?_
  ·exfalso;have:=Zch h3;omega
   done
  refine Yu (kq (Zk (Zn (Zu J (Va Zf J J E.g3.row (Va Zj J J h.laid.hC.2.2.2.2.2 (Y3 J Yy J J J (Qw HX FX Od [b3,b4,b6] h he hc hk0 hb hn (E.ltm Ob) g.size) ((fun ch w' hz=>Bad.pass hz (by rw [e];exact Er.refl _) (Aaa _) g)) ?_)))))));rintro v66 w66 ⟨⟨p66,d66,rfl,q66,k66⟩,he2,eW,h,g66⟩;refine ⟨nw1,?_⟩;have g:=gtw g g66;replace E:=E.gtx g66;refine AS fun _ ga Ca g E=>?_;first|have h:=h.keep ga Ca O (.inl rfl)|have h:=h.keep ga Ca O (.inr ⟨by simp,fun hm=>by have:=htb2 _ hm;omega⟩)
  have k66:=k66.keep ga Oi;refine AS fun _ ga Ca g E=>?_;first|have h:=h.keep ga Ca O (.inl rfl)|have h:=h.keep ga Ca O (.inr ⟨by simp,fun hm=>by have:=htb2 _ hm;omega⟩)
  have k66:=k66.keep ga Oi;refine RTN ?_;rw [eW] at he2;rw [e,eW];exact ⟨he2,⟨_,_,X,rfl,Xh rfl (k66.kdN q66),fun j hj=>hj,h.sub htb.1 (by intro j hj;simp [hj]),⟨none,0,rfl,fun q=>(Bla 0 q).elim⟩⟩,g⟩
 replace h1:t.kind≠28:=Zdh h1;refine IF (fun h4=>?_) fun h4=>?_
 ·have h27:t.kind=27:=Zch h4
  have hnum:numS t=0:=by unfold numS Wj;rw [Jxg O,Jxg O];rfl
  refine AU ?_;refine CL (Zue h hb O t.text) ?_;rintro _ _ ⟨⟨k52,m52,z52,q52,y52,rfl,H52⟩,ga⟩;refine RC fun g E=>?_;have h:=Uk h;have hk0:=Uk hk0;have M52:=fun q=>(H52 q).2.2;refine AN fun _ _ ga _ g E=>?_;have hp9:=h;have h:=Ui h;have hk0:=Ui hk0;have M52:=fun q=>(M52 q).grow (ga.g);refine AS fun _ ga Ca g E=>?_;first|have h:=h.keep ga Ca O (.inl rfl)|have h:=h.keep ga Ca O (.inr ⟨by simp,fun hm=>by have:=htb2 _ hm;omega⟩)
  have hk0:=Ud hk0;have M52:=fun q=>(M52 q).keep ga (fun hm=>by have:=htb2 _ hm;omega);refine IF (fun h5=>?_) fun h5=>?_
  ·obtain ⟨q1,q2,q3⟩:=Ueg HF h27 h5
   obtain ⟨f1,f2,_⟩:=H52 h5;have f3:=M52 h5;refine AU ?_;refine Yx (rowR (some b4)) [3,0,1,3,0,3,0,1,3,2] [0,0,3,0,8,0,32,7,159,511] mix KR [0,1,2,3,4,5,6,7,8,9] J ?_;have g:=gtd g;replace E:=E.dr;have h:=h.grow (G.drew _);have M52:=fun q=>(M52 q).grow (G.drew _);have f3:=f3.grow (G.drew _);refine Zr 0 J J (fun _=>Zw (Zc J)) (Yg 1 J J (fun w1 hx=>Zo Zf (Zc J) J (fun _=>(E.g3.keep hx (fun h=>E.ne 3 2 J J J (Option.some.inj h))).row)) (Zr 3 J J (fun _=>Zh Jf (Zc J)) (Yg 4 J J (fun w1 hx=>Zt Vv (Zc J) (fun _=>(E.g0.keep hx (fun h=>E.ne 0 2 J J J (Option.some.inj h))).at_ J)) (Zr 5 J J (fun _=>Zh Jg (Zc J)) (Yg 6 J J (fun w1 hx=>Zo Zj (Zc J) J (fun _=>(E.g0.keep hx (fun h=>E.ne 0 2 J J J (Option.some.inj h))).row.part 2 2)) (Zm 2 J J ?_))))));refine Zl (L':=[7,8,9]) [3,0,1,3,0,3,0,2,3,2] J J J ?_;refine Y2 J Jx J J (Xgc t _ _ h hb O HF.res hnum) ((fun ch w' hz=>by rw [q1] at hz;exact Awa hz.1)) ?_;rintro v58 w58 ⟨_,rfl,g58⟩;refine ⟨fun _=>g58,?_⟩;have g:=gtg g g58;have h:=h.grow g58;have f3:=f3.grow g58;replace E:=E.grow g58;refine Zs (g58.only _) ?_;refine Zm 7 J J ?_;refine Zl (L':=[8,9]) [3,0,1,3,0,3,0,2,3,2] J J J ?_;refine AS fun _ hgS10 Ca g E=>?_;first|have h:=h.keep hgS10 Ca O (.inl rfl)|have h:=h.keep hgS10 Ca O (.inr ⟨by simp,fun hm=>by have:=htb2 _ hm;omega⟩)
   have f3:=f3.keep hgS10 (fun hm=>by have:=htb2 _ hm;omega);refine Zs (hgS10) ?_;refine Zr 8 J J (fun _=>Ji (Zc J)) (Zm 9 J J ?_);refine Ys (L':=[]) [3,0,1,3,0,3,0,2,3,2] J J J J ?_;refine AS fun _ ga Ca g E=>?_;first|have h:=h.keep ga Ca O (.inl rfl)|have h:=h.keep ga Ca O (.inr ⟨by simp,fun hm=>by have:=htb2 _ hm;omega⟩)
   have f3:=f3.keep ga (fun hm=>by have:=htb2 _ hm;omega);refine Xm ?_;refine TK [0,3,4,5,6] ?_;refine RTN ?_;rw [q3];dsimp only;rw [← f2];exact ⟨he,⟨_,_,X,rfl,Yzc _ _ _ q2,fun j hj=>hj,h.sub htb.1 (by intro j hj;simp [hj]),f3.wide htb.1⟩,g⟩
  have e:=Uwc (F:=F) (S:=S) (by rw [Jxg h1,Ama]) (by rw [Zvg h5,Bka]) (FX.can S hs hc);refine Yu (kq (Zk (Zn (Zu J (Va Zf J J E.g3.row (Va Zj J J h.laid.hC.2.2.2.2.2 (Y3 J Yy J J J (Qw HX FX Od [b3,b4,b6] h he hc hk0 hb hn (E.ltm Ob) g.size) ((fun ch w' hz=>Bad.pass hz (by rw [e];exact Er.refl _) (Aaa _) g)) ?_)))))));rintro v66 w66 ⟨⟨p66,d66,rfl,q66,k66⟩,he2,eW,h,g66⟩;refine ⟨nw1,?_⟩;have g:=gtw g g66;replace E:=E.gtx g66;refine AS fun _ ga Ca g E=>?_;first|have h:=h.keep ga Ca O (.inl rfl)|have h:=h.keep ga Ca O (.inr ⟨by simp,fun hm=>by have:=htb2 _ hm;omega⟩)
  have k66:=k66.keep ga Oi;refine AS fun _ ga Ca g E=>?_;first|have h:=h.keep ga Ca O (.inl rfl)|have h:=h.keep ga Ca O (.inr ⟨by simp,fun hm=>by have:=htb2 _ hm;omega⟩)
  have k66:=k66.keep ga Oi;refine RTN ?_;rw [eW] at he2;rw [e,eW];exact ⟨he2,⟨_,_,X,rfl,Xh rfl (k66.kdN q66),fun j hj=>hj,h.sub htb.1 (by intro j hj;simp [hj]),⟨none,0,rfl,fun q=>(Bla 0 q).elim⟩⟩,g⟩
 have e:=Uwc (F:=F) (S:=S) (by rw [Jxg h1,Ama]) (by rw [show decide (t.kind=27)=false from h4,Ama]) (FX.can S hs hc);refine Yu (kq (Zk (Zn (Zu J (Va Zf J J E.g2.row (Va Zj J J h.laid.hC.2.2.2.2.2 (Y3 J Yy J J J (Qw HX FX Od [b3,b4,b6] h he hc hk0 hb hn (E.ltm Ob) g.size) ((fun ch w' hz=>Bad.pass hz (by rw [e];exact Er.refl _) (Aaa _) g)) ?_)))))));rintro v66 w66 ⟨⟨p66,d66,rfl,q66,k66⟩,he2,eW,h,g66⟩;refine ⟨nw1,?_⟩;have g:=gtw g g66;replace E:=E.gtx g66;refine AS fun _ ga Ca g E=>?_;first|have h:=h.keep ga Ca O (.inl rfl)|have h:=h.keep ga Ca O (.inr ⟨by simp,fun hm=>by have:=htb2 _ hm;omega⟩)
 have k66:=k66.keep ga Oi;refine AS fun _ ga Ca g E=>?_;first|have h:=h.keep ga Ca O (.inl rfl)|have h:=h.keep ga Ca O (.inr ⟨by simp,fun hm=>by have:=htb2 _ hm;omega⟩)
 have k66:=k66.keep ga Oi;refine RTN ?_;rw [eW] at he2;rw [e,eW];exact ⟨he2,⟨_,_,X,rfl,Xh rfl (k66.kdN q66),fun j hj=>hj,h.sub htb.1 (by intro j hj;simp [hj]),⟨none,0,rfl,fun q=>(Bla 0 q).elim⟩⟩,g⟩
theorem RowM.gt{Z X:List Nat}{n0:Nat}{w w':Aa}{l:List Ty}{v:Fa}(h:RowM Z w l v)(g:GT (mutC X) n0 w w')(hz:∀ j∈Z,j∈X):RowM Z w' l v:=h.same fun b hb hlt ⟨cs,fr,hh⟩=>g.block b hlt (.inr fun ⟨cs',e',fr',h1,h2⟩=>by
 unfold mutC at h2;rw [Jyg (hz b hb)] at h2;simp at h2)
theorem RowM.keept{Z:List Nat}{w w':Aa}{l:List Ty}{v:Fa}{j:Nat}{e:Ba}{xs:List Fa}(h:RowM Z w l v)(hg:w.grownBy w' (some j))(hB:Blk w j e xs)(he:Aca e 24=false):RowM Z w' l v:=h.same fun b hb hlt ⟨cs,fr,hh⟩=>hg.block b hlt fun q=>by
 injection q with q;subst q;unfold Blk at hB;rw [hB] at hh;injection hh with hh;injection hh with _ hh;subst hh;simp at he
theorem Uid{Z:List Nat}{w:Aa}{l:List Ty}{p:Option Addr}{m c:Nat}(h:RowM Z w l (.slice p m c)){i:Nat}(hi:i<l.length):m=l.length∧p=some ⟨pb p,po p,none⟩∧RowAt w (pb p) (po p+i*2) (tyCells (l.getD i ty0)):=by
 obtain ⟨p',c',hv,h⟩:=h;injection hv with e1 e0 e2;subst e1;obtain ⟨b,o,cs,fr,rfl,_,_,hR⟩:=h O;refine ⟨e0,rfl,?_⟩;rw [List.getD_eq_getElem?_getD,Aia hi];exact Zcc (f:=tyCells) (z:=2) Yea hR hi
theorem RowM.len{Z:List Nat}{w:Aa}{l:List Ty}{p:Option Addr}{m c:Nat}(h:RowM Z w l (.slice p m c)):m=l.length:=by
 obtain ⟨p',c',hv,h⟩:=h;injection hv
theorem CalM.to{M:Nat}{F t:Nd}(H:CalM M F t){n0 b:Nat}{TB X:List Nat}{r0:List Ty}{S:CSt}{A:(Nd×List Ty×Ty)×CSt}(hA:A=(ckT F t).cal S){w:Aa}{v:Fa}{N m0:Nat}(Y:List Nat)(h:PC F n0 b TB X (some r0) S w)(he:S.ee=0)(hc:CanV S)(hk:Kd w (fun k=>k<n0) t.kids v)(hb:Bd S N)(hn:N+count t≤M)(hY:∀ j∈Y,j<w.heap.size)(hm:m0≤w.heap.size) :
 RetP PP 161 #[.pointer (some ⟨b,0,none⟩),ndV t v] w (fun r w'=>(∃ p c pl ml cl,r = .tuple #[ndV A.1.1 (.slice p A.1.1.kids.length c),.slice pl ml cl,tyV A.1.2.2]∧m0≤w.heap.size∧KdX w.heap.size Y w' A.1.1.kids (.slice p A.1.1.kids.length c)∧∃ Z,(∀ j∈X,j∈Z)∧PC F n0 b TB Z (some r0) A.2 w'∧RowM Z w' A.1.2.1 (.slice pl ml cl))∧A.2.ee=0∧GT (mutC X) n0 w w') (Bad n0 b X (S.scope+1) A.2 w):=by
 subst hA
 exact (H h he hc hk hb hn).mono (fun r w' hr=>by
  obtain ⟨h0,⟨u,l,Z,e,⟨p,c,e2,k⟩,hX,hP,hR⟩,g⟩:=hr;subst e2;obtain ⟨pl,cl,rfl,_⟩:=id hR;exact ⟨⟨p,c,pl,_,cl,e,hm,KdN.x k hY,Z,hX,hP,hR⟩,h0,g⟩) fun _ _ h=>h
theorem Wif{F t:Nd}{ps:List Ty}{S:CSt}{i:Nat}(h:i+1<t.kids.length)(hp:i<ps.length):argA t (ckX F t) ps S (i+1)=((argA t (ckX F t) ps S i).1++[((ckT F (Za t (i+1))).ex (argA t (ckX F t) ps S i).2).1],failU (Vg (ps.getD i ty0) ((ckT F (Za t (i+1))).ex (argA t (ckX F t) ps S i).2).1.ty) (Za t (i+1)).pos 7 ((ckT F (Za t (i+1))).ex (argA t (ckX F t) ps S i).2).2):=by
 rw [argA,Xx h,Jyg hp,Bool.true_and,Bma]
theorem Wjf{F t:Nd}(hl:1≤t.kids.length)(HC:CalM 1000000 F (Za t 0))(HE:∀ i,i<t.kids.length→CxM 1000000 F 113 (Za t i) (ckT F (Za t i)).ex)(HF:∀ i,Fx (ckT F (Za t i)).ex):CxM 1000000 F 141 t (callR t (ckX F t)):=by
 intro n0 b TB X r0 S w v N h he hc hkw hb hcn;obtain ⟨p,c,rfl,hcap,_⟩:=id hkw;obtain ⟨bp,op,rfl⟩:∃ bp op,p=some ⟨bp,op,none⟩:=⟨_,_,(Yr hkw (i:=0) O).1⟩;have hk0:=hkw;have hlt:=h.lt;have htb:=h.tb;have hs:=h.scs;have htb2:∀ j∈TB,j<w.heap.size:=fun j hj=>htb.2 j (htb.1 j hj);have hln:=Wu t;have x0:ckX F t 0=ckT F (Za t 0):=Xx O;obtain ⟨A,hA⟩:∃ A,A=(ckT F (Za t 0)).cal S:=⟨_,rfl⟩;obtain ⟨q0,hq0⟩:∃ q,q=decide ((t.kids.length:Int)-1=(A.1.2.1.length:Nat)):=⟨_,rfl⟩
 have eR:callR t (ckX F t) S=(annT t (A.1.1::(argA t (ckX F t) A.1.2.1 (failU q0 t.pos 7 A.2) (t.kids.length-1)).1) A.1.2.2,(argA t (ckX F t) A.1.2.1 (failU q0 t.pos 7 A.2) (t.kids.length-1)).2):=by
  unfold callR;dsimp only;rw [x0,← hA,← hq0]
 have hs1:sC t 1=cN t 0:=by show 0+cN t 0=_;omega
 have hc0:cN t 0=count (Za t 0):=Xya O;have hsl:=Uca t 1;have hst0:Stp (sC t 1) S A.2:=by rw [hA];exact ((Uh F (Za t 0)).cal S).mono O
 have hag:∀ i,Stp (sC t (i+1)) S (argA t (ckX F t) A.1.2.1 A.2 i).2:=fun i=>Yyd (Xeb F t) A.1.2.1 hst0 i;have hva:Vs S A.2:=by rw [hA];exact (Jma F _).cal S hs
 have hvg:∀ i,CanV (argA t (ckX F t) A.1.2.1 A.2 i).2:=fun i=>(Zce (Ywa F t) A.1.2.1 hs hva i).can hc;have her:∀ i k,Er (argA t (ckX F t) A.1.2.1 A.2 i).2 (argA t (ckX F t) A.1.2.1 A.2 (i+k)).2:=Uic (Xeb F t) A.1.2.1 A.2
 have e0r:Er (failU q0 t.pos 7 A.2) (callR t (ckX F t) S).2:=by
  rw [eR];have:=Uic (Xeb F t) A.1.2.1 (failU q0 t.pos 7 A.2) 0 (t.kids.length-1);rwa [Afa] at this
 have g:=GT.refl (mutC X) n0 w;refine Vd (m:=61) Tryz.func141 J J [(0,True,_),(1,True,_)] (Zb J (Zb J (Zq _))) ?_;refine BM fun b3 _ ga _ g E=>?_;have hp3:=h;have h:=Ui h;have hk0:=Ui hk0;refine AN fun b4 _ ga _ g E=>?_;have hp4:=h;have h:=Ui h;have hk0:=Ui hk0;refine AU ?_;refine CL (Jr t _ _ _) ?_;rintro _ _ ⟨rfl,ga⟩;refine RC fun g E=>?_;have h:=Uk h;have hk0:=Uk hk0;refine AN fun b5 _ ga _ g E=>?_;have hp5:=h;have h:=Ui h;have hk0:=Ui hk0;refine AS fun _ ga Ca g E=>?_;first|have h:=h.keep ga Ca O (.inl rfl)|have h:=h.keep ga Ca O (.inr ⟨by simp,fun hm=>by have:=htb2 _ hm;omega⟩)
 have hk0:=Ud hk0;refine AU ?_;obtain ⟨e0,p1,c1,hcell,hkid⟩:=Yr hk0 (i:=0) O;refine AU ?_;refine Y2 J Zib J J (CalM.to HC hA [b3,b4,b5] h he hc hkid hb O (E.ltm Ob) g.size) ((fun ch w' hz=>Bad.pass hz (((Er.refl _).failu _ _ _).trans e0r) (Aaa _) g)) ?_;rintro v19 w19 ⟨⟨p19,c19,pl,ml,cl,rfl,q19,k19,Z,hXZ,h,hM⟩,he1,g19⟩;refine ⟨nw1,?_⟩;have g:=gtw g g19 (by first|(intro j hj;simp [hj];done)|exact (fun j hj=>Aha _ (hXZ j hj)));replace E:=E.gtx g19;have hZlt:=h.tb.2;have hk0:=hk0.gt g19 (fun k h=>h);have hml:=hM.len;subst hml;refine AN fun b6 _ N6 _ g E=>?_;have hp6:=h;have k19:=k19.new N6;have h:=h.grow (N6.g);have hk0:=hk0.grow (N6.g);have hM:=hM.grow (N6.g);refine AN fun b8 _ N8 _ g E=>?_;have hp8:=h;have k19:=k19.new N8;have h:=h.grow (N8.g);have hk0:=hk0.grow (N8.g);have hM:=hM.grow (N8.g);have h:=hp8.addX N8;have h8:b8∉Z:=fun hm=>by have:=hZlt _ hm;have:=N6.at_;have:=N6.g.size;have:=N8.at_;omega
 refine AS fun _ ga Ca g E=>?_;first|have h:=h.keep ga Ca O (.inl rfl)|have h:=h.keep ga Ca O (.inr ⟨by simp,fun hm=>by have:=htb2 _ hm;omega⟩)
 have hk0:=Ud hk0;have hM:=(by first|exact hM.keept ga Ca rfl|exact hM.keep ga h8:RowM Z _ _ _);have k19:=k19.keep ga Oi;refine AS fun _ ga Ca g E=>?_;first|have h:=h.keep ga Ca O (.inl rfl)|have h:=h.keep ga Ca O (.inr ⟨by simp,fun hm=>by have:=htb2 _ hm;omega⟩)
 have hk0:=Ud hk0;have hM:=(by first|exact hM.keept ga Ca rfl|exact hM.keep ga h8:RowM Z _ _ _);have k19:=k19.keep ga Oi;refine AU ?_;refine Ya _ J Zd Zp (pqc J pq0) J J ?_;intro b24 w24 N24;have l24:=Wc N24 g.size;have hp24:=h;have k19:=k19.new N24;have B24:=N24.blk;have x24_3:=N24.ne E.g4;have x24_4:=N24.ne E.g3;have x24_5:=N24.ne E.g2;have x24_6:=N24.ne E.g1;have x24_8:=N24.ne E.g0;have g:=gtg g N24.g;replace E:=E.grow N24.g;have h:=h.grow (N24.g);have hk0:=hk0.grow (N24.g);have hM:=hM.grow (N24.g);have hO:OwnN [b3,b4,b5,b6,b8] w.heap.size _ [A.1.1] (.slice (some ⟨b24,0,none⟩) 1 1):=Vld B24 l24 (k19.mono fun k hk _=>⟨⟨⟨by have:=hk.1.1;omega,by have:=hk.1.2;simp at this ⊢;omega⟩,hk.2⟩,by have:=hk.1.2;simp at this;omega⟩) ⟨⟨l24,by simp;omega⟩,Jp B24⟩;refine AS fun _ ga Ca g E=>?_;first|have h:=h.keep ga Ca O (.inl rfl)|have h:=h.keep ga Ca O (.inr ⟨by simp,fun hm=>by have:=htb2 _ hm;omega⟩)
 have hk0:=Ud hk0;have hM:=(by first|exact hM.keept ga Ca rfl|exact hM.keep ga h8:RowM Z _ _ _);have hO:=Ua hO;refine AU ?_;refine Y3 J Yd J J J (Wy _ _ _ _) ((fun ch w' hz=>Un (h.sub (Y:=X) htb.1 (by intro j hj;simp [hXZ j hj])) he1 Od (by rw [show decide ((t.kids.length:Int)-1=(A.1.2.1.length:Nat))=q0 from hq0.symm];exact e0r) hz g (by rw [hst0.scope];exact Aaa _))) ?_;rintro _ _ ⟨rfl,hq,ga⟩;refine RC fun g E=>?_;have h:=Uk h;have hM:=Uk hM;have hO:=Uk hO;have hk0:=Uk hk0;have hq1:q0=true:=hq0.trans hq;have hql:(t.kids.length:Int)-1=(A.1.2.1.length:Nat):=Zch hq;have eR:callR t (ckX F t) S=(annT t (A.1.1::(argA t (ckX F t) A.1.2.1 A.2 (t.kids.length-1)).1) A.1.2.2,(argA t (ckX F t) A.1.2.1 A.2 (t.kids.length-1)).2):=by rw [eR,hq1];rfl
 refine AU ?_;refine Zz J (fun _=>Yhb Zd (Zc J) Xv (fun _=>O)) ?_;refine AU ?_;have hnd1:=E.1;refine Qa (fun (i:Nat) u1=>(i+1≤t.kids.length∧(argA t (ckX F t) A.1.2.1 A.2 i).2.ee=0∧PC F n0 b TB (b8::Z) r0 (argA t (ckX F t) A.1.2.1 A.2 i).2 u1∧RowM Z u1 A.1.2.1 (.slice pl A.1.2.1.length cl)∧Blk u1 b8 24 (tyCells A.1.2.2)∧∃ s,Blk u1 b5 26 (ndCells (clnT t) s)∧OwnN [b3,b4,b5,b6,b8] w.heap.size u1 (A.1.1::(argA t (ckX F t) A.1.2.1 A.2 i).1) s)∧GT (mutC X) n0 w u1) _ [(0,True,_),(4,True,_),(5,True,_),(7,True,_),(8,True,_),(38,True,_),(39,True,_)] (fun (i:Nat)=>[(40,True,.int .i64 i)]) (fun (i:Nat)=>t.kids.length-i) (0) ⟨⟨hl,he1,h,hM,E.g0,_,E.g2,hO.sub Oj⟩,g⟩ (Zx (blkE E.g4) (Zx (blkE E.g3) (Zx (blkE E.g1) (Zx (blkE E.g0) (Wa _))))) (Zb J (Zb J (Zb J (Zb J (Zb J (Zb J (Zb J (Zb J (Zq _))))))))) ?_;clear E;rintro i u1 ⟨hI1,gl1⟩ ⟨B3,B4,B6,B8,_⟩;replace B3:Blk _ _ _ _:=B3;replace B4:Blk _ _ _ _:=B4;replace B6:Blk _ _ _ _:=B6;replace B8:Blk _ _ _ _:=B8;have g:=gl1;obtain ⟨hi,hei,h,hM,B8,s,B5,hO⟩:=hI1;obtain ⟨sa,sc,rfl⟩:=hO.slice;have hk0:=hkw.gt gl1 (fun k h=>h);have hlen:=Ubd t (ckX F t) A.1.2.1 A.2 i;have E:=Vwa (L:=[(b8,_,_),(b6,_,_),(b5,_,_),(b4,_,_),(b3,_,_)]) hnd1 ⟨B8,B6,B5,B4,B3,trivial⟩ rfl;refine IF (fun h1=>?_) fun h1=>?_
 ·replace h1:i+1<t.kids.length:=by simp only [Zah] at h1;omega
  obtain ⟨e0,p1,c1,hcell,hkid⟩:=Yr hk0 (i:=i+1) h1;have hps:i<A.1.2.1.length:=by omega
  have hen:=Wif (F:=F) (S:=A.2) h1 hps;have hbd:=(hag i).bd _ hb;have hsc:=Uca t (i+2);have hcN:=Xya h1;have hsc1:sC t (i+2)=sC t (i+1)+cN t (i+1):=rfl;have hOlt:=hO.lt;refine Yu (kq (Zk (Yw (Zk (Zn (Zu J (Yja Zd J J O J (Va Zf J J (by
 have q:=hcell;rw [show po (some (⟨bp,op,none⟩:Addr))+(i+1)*9=op+9+i*9 by show op+(i+1)*9=_;omega] at q;show RowAt u1 bp ((if c=1 then op else op+1*9)+i*9) _
 rw [if_neg O];exact q) (Yt rfl Zp rfl ?_)))))))))
  intro b10 w10 N10
  have l10:=Wc N10 g.size
  have hp10:=h
  have hO:=hO.new N10
  have g:=gtg g N10.g
  have h:=h.grow (N10.g)
  have hM:=hM.grow (N10.g)
  have hkid:=hkid.grow (N10.g)
  replace E:=E.new N10
  refine AS fun _ ga Ca g E=>?_
  first|have h:=h.keep ga Ca O (.inl rfl)|have h:=h.keep ga Ca O (.inr ⟨by simp,fun hm=>by have:=htb2 _ hm;omega⟩)
  have hkid:=Ud hkid
  have hM:=(by first|exact hM.keept ga Ca rfl|exact hM.keep ga h8:RowM Z _ _ _)
  have hO:=Ua hO
  have hOlt:=hO.lt
  refine AU ?_
  refine Yx (gtC (b8::Z) n0) [3,0,3,0,3,3,3,0,1,1,2,3,2] [0,1,0,0,0,0,48,112,252,508,1023,2047,4095] mix KR [0,1,2,3,4,5,6,7,8,9,10,11,12] J ?_
  have g:=gtd g
  replace E:=E.dr
  have h:=h.grow (G.drew _)
  have hM:=hM.grow (G.drew _)
  have hkid:=hkid.grow (G.drew _)
  have hO:=hO.grow (G.drew _)
  refine Zr 0 J J (fun _=>Zh Zg (Zc J)) (Yg 1 J J (fun w1 hx=>Zt Zi (Zc J) (fun _=>(E.g3.gt hx J).at_ J)) (Zr 2 J J (fun _=>Zw (Zc J)) (Yg 3 J J (fun w1 hx=>Zo Zf (Zc J) J (fun _=>(E.g0.gt hx J).row)) (Zr 4 J J (fun _=>Zw (Zc J)) (Zr 5 J J (fun _=>Zw (Zc J)) (Zr 6 J J (fun _=>Xr Wd (Zc J) (Zc J) (fun _=>O) (fun _=>(Uid hM hps).2.1)) (Yg 7 J J (fun w1 hx=>Zo Zj (Zc J) J (fun _=>(Uid (hM.gt hx (fun j hj=>Aha _ hj)) hps).2.2)) (Zm 8 J J ?_))))))))
  refine Zl (L':=[9,10,11,12]) [3,0,3,0,3,3,3,0,2,1,2,3,2] J J J ?_
  refine Y3 J Qc J J J (Yzb (HE (i+1) h1) (HF (i+1)) (A.1.2.1.getD i ty0) [b3,b4,b5,b6,b8,b10] h hei (hvg i) hkid hbd O (E.ltm Ob) g.size) ((fun ch w' hz=>Bad.pass hz (by rw [eR];have:=her (i+1) (t.kids.length-1-(i+1));rw [show i+1+(t.kids.length-1-(i+1))=t.kids.length-1 by omega,hen] at this;exact this) (by rw [(hag i).scope];exact Aaa _) g (fun j hj=>Aha _ (hXZ j hj)))) ?_
  rintro v53 w53 ⟨⟨p53,c53,rfl,q53,k53⟩,he53,eW,h,g53⟩
  refine ⟨nw1,?_⟩
  have g:=gtw g g53 (by first|(intro j hj;simp [hj];done)|exact (fun j hj=>Aha _ (hXZ j hj)))
  replace E:=E.gtx g53
  have hO:=hO.gt g53 rfl
  have hM:=hM.gt g53 (fun j hj=>Aha _ hj)
  rw [eW] at hen he53
  have he53:(argA t (ckX F t) A.1.2.1 A.2 (i+1)).2.ee=0:=by rw [hen];exact he53
  refine Zs (g53) ?_
  refine Zm 9 J J ?_
  refine Zl (L':=[10,11,12]) [3,0,3,0,3,3,3,0,2,1,2,3,2] J J J ?_
  refine CN fun _ _ N54 _ g E=>?_
  have hp54:=h
  have k53:=k53.new N54
  have hO:=hO.new N54
  have h:=h.grow (N54.g)
  have hM:=hM.grow (N54.g)
  refine Zs (GT.of_g (N54.g)) ?_
  refine Zm 10 J J ?_
  refine Ys (L':=[11,12]) [3,0,3,0,3,3,3,0,2,1,2,3,2] J J J J ?_
  have hO:=hO.sub (Y:=[b3,b4,b5,b6,b8]) Oj
  have hOo:=hO
  refine Wia J Zd Zp J (Zc J) hO (Zc J) J E.g0.row (Vo k53 q53 Oj (fun j hj=>.inr (hOlt j hj))) (by simp;omega) (by have:=g.size;omega) ⟨by have:=g.size;omega,by have q3:=E.g6.lt;have q4:=E.g5.lt;have q5:=E.g4.lt;have q6:=E.g3.lt;have q8:=E.g2.lt;simp;omega⟩ ?_
  intro a55 c55 w55 hO hg55
  replace E:=E.sel [false,false,true,true,true,true,true]
  replace E:=E.keepX hg55 hOo.ne Ob
  have g:=Wx g hg55 (fun k hk=>hOo.ge k hk)
  have h:=h.keepO hg55 hOo O
  have hM:=hM.same (fun b hb hlt ⟨cs,fr,hh⟩=>hg55.block b hlt (fun e=>by obtain ⟨cs2,fr2,h2⟩:=hOo.nd b e.symm;rw [hh] at h2;injection h2 with h2;injection h2 with _ h2;exact absurd h2 Od))
  refine Xm ?_
  refine Zr 11 J J (fun _=>Zh Zg (Zc J)) (Zm 12 J J ?_)
  refine Ys (L':=[]) [3,0,3,0,3,3,3,0,2,1,2,3,2] J J J J ?_
  refine AS fun _ ga Ca g E=>?_
  first|have h:=h.keep ga Ca O (.inl rfl)|have h:=h.keep ga Ca O (.inr ⟨by simp,fun hm=>by have:=htb2 _ hm;omega⟩)
  have hM:=(by first|exact hM.keept ga Ca rfl|exact hM.keep ga h8:RowM Z _ _ _)
  have hO:=Ua hO
  refine Xm ?_
  refine TK [0,4,5,7,8,38,39,40] ?_
  refine AU ?_
  refine SK [40,0,4,5,7,8,38,39] ?_
  refine Ze (fun a ha=>?_)
  exact ⟨i+1,ha,⟨⟨h1,he53,by rw [hen];exact h,hM,E.g0,_,E.g2,by rw [hen];exact hO.sub Oj⟩,g⟩,(Zx (blkE E.g4) (Zx (blkE E.g3) (Zx (blkE E.g1) (Zx (blkE E.g0) (Wa _))))),O⟩
 replace h1:i=t.kids.length-1:=by simp only [Zbh] at h1;omega
 subst h1;refine AU ?_;refine Xb J Xk (Zc J) (Zc J) J J E.g2 J J ?_;intro wS7 hgS7 _ BS;have C5:=E.g2;replace E:=E.s2 hgS7 BS;have g:=Yb g hgS7 O;first|have h:=h.keep hgS7 C5 O (.inl rfl)|have h:=h.keep hgS7 C5 O (.inr ⟨by simp,fun hm=>by have:=htb2 _ hm;omega⟩)
 have hM:=(by first|exact hM.keept hgS7 C5 rfl|exact hM.keep hgS7 h8:RowM Z _ _ _);have hO:=hO.keep hgS7 Os;refine AS fun _ ga Ca g E=>?_;first|have h:=h.keep ga Ca O (.inl rfl)|have h:=h.keep ga Ca O (.inr ⟨by simp,fun hm=>by have:=htb2 _ hm;omega⟩)
 have hM:=(by first|exact hM.keept ga Ca rfl|exact hM.keep ga h8:RowM Z _ _ _);have hO:=Ua hO;refine RTN ?_;rw [eR];exact ⟨hei,Xh (t:=annT t _ _) rfl (hO.sub (Y:=[b3,b4,b5,b6,b8]) Oj).kd,h.sub htb.1 (fun j hj=>Aha _ (hXZ j hj)),g⟩
theorem Wkf(F t:Nd)(S:CSt):(ckT F t).blk S=(((ckT F t).sts (openS S)).1,shutS ((ckT F t).sts (openS S)).2):=by rw [Vm];rfl
theorem Wlf{S:CSt}{N:Nat}(hb:Bd S N):Bd (openS S) (N+1) :=
 ⟨by have:=hb.vl;show S.vars.length≤_;omega,by have:=hb.nl;show S.next.length≤_;omega,fun k hk=>by have:=hb.nx k hk;omega,hb.lv,by have:=hb.sc;show S.scope+1≤_;omega,fun v hv=>by have:=hb.vs v hv;omega⟩
theorem KdX.gtc{lo n0:Nat}{X Y:List Nat}{w w':Aa}{ks:List Nd}{v:Fa}(h:KdX lo Y w ks v)(g:GT (mutC X) n0 w w'):KdX lo Y w' ks v:=Wk h (fun k hk _=>⟨hk.1,hk.2.gt g rfl⟩) fun k hk hlt=>g.block k hlt (.inr (hk.2.ntyr rfl))
section
variable {F:Nd} {n0 b:Nat} {TB X:List Nat} {r0:List Ty} {S T:CSt} {fv:Fa} {ms mg mn mf:Nat} {pv:Nat→Fa} {sv cv rv cv' rv':Fa} {vs:List Fa} {sc:List (List Vr)} {w w' w1 w2 w3 w4 w5:Aa}
theorem PK.oth{q0 q1:Option (List Ty)}(h:PK F n0 b TB X q0 S fv ms mg mn mf pv sv cv rv vs sc w){S':CSt}(G:GT (mutC X) n0 w w')(hB:Blk w' b 59 (pcCells F fv ms mg mn mf sv cv' rv'))(so:w'.ownsRow n0 82 1 sv vs.length vs)(sr:ScR 84 n0 w' vs sc)
 (co:w'.ownsRow n0 3 1 cv' (S'.level+1) ((S'.next.take (S'.level+1)).map fun (k:Nat)=>Value.int .i64 (k:Int))) (ro:w'.ownsRow n0 24 2 rv' (rsT q1 S'.result).length ((rsT q1 S'.result).flatMap tyCells)) (rl:∀ l,q1=some l→l.length=S'.level)
 (hc:∀ k,cv'.ownBlock=some k→cv.ownBlock=some k∨w.heap.size≤k) (hr:∀ k,rv'.ownBlock=some k→rv.ownBlock=some k∨w.heap.size≤k) (h1:S'.vars=S.vars) (h2:S'.scope=S.scope):PK F n0 b TB X q1 S' fv ms mg mn mf pv sv cv' rv' vs sc w':=by
 obtain ⟨t1,t2,t3,t4⟩:=h.tabs G;refine ⟨hB,h.hb,t1,h.hF,t2,t3,so,sr,h.fl.trans h1.symm,h.sl.trans (by rw [h2]),h.ss,co,ro,rl,h.tx,t4,h.bx,h.sx,h.vx,fun k hk=>?_,fun k hk=>?_,h.sz⟩;rcases hc k hk with q|q;exact h.cx k q;intro hm;have:=h.xl k hm;omega;rcases hr k hk with q|q;exact h.rx k q;intro hm;have:=h.xl k hm;omega
theorem ScR.keepb(h:ScR 84 n0 w vs sc){e:Ba}{l:List Fa}(hg:w.grownBy w' (some b))(hB:Blk w b e l)(he:Aca e 84=false):ScR 84 n0 w' vs sc :=
 h.keep hg fun k hk=>by
 injection hk with hk;subst hk;exact Wub (M:=fun x _=>Aca x 84) hB (by funext _;exact he)
theorem PK.psh(h:PK F n0 b TB X (some r0) S fv ms mg mn mf pv sv cv rv vs sc w)(hl:Ln S)(hg1:w.grownBy w1 cv.ownBlock)(co:w1.ownsRow n0 3 1 cv' (S.level+1+1) (((S.next.take (S.level+1)).map fun (k:Nat)=>Value.int .i64 (k:Int))++[.int .i64 0]))(hc:∀ k,cv'.ownBlock=some k→cv.ownBlock=some k∨w.heap.size≤k)
 (hg2:w1.grownBy w2 (some b)) (hB2:Blk w2 b 59 (pcCells F fv ms mg mn mf sv cv' rv)) (g3:Go.Rk.G w2 w3) (hg4:w3.grownBy w4 rv.ownBlock) (ro:w4.ownsRow n0 24 2 rv' ((r0++[S.result]).length+1) ((r0++[S.result]).flatMap tyCells++tyCells ty0)) (hr:∀ k,rv'.ownBlock=some k→rv.ownBlock=some k∨w3.heap.size≤k)
 (hg5:w4.grownBy w5 (some b)) (hB5:Blk w5 b 59 (pcCells F fv ms mg mn mf sv cv' rv')):PK F n0 b TB X (some (r0++[S.result])) (litS S) fv ms mg mn mf pv sv cv' rv' vs sc w5:=by
 have B1:Blk w1 b 59 _:=h.B.keep hg1 (fun e=>Xy h.co h.B rfl e.symm);have ro3:w3.ownsRow n0 24 2 rv _ _:=Xl (Yi (Yi h.ro hg1 (Ysa h.ro h.co rfl)) hg2 (.inr (Xy (Yi h.ro hg1 (Ysa h.ro h.co rfl)) B1 rfl))) g3;have B3:=hB2.grow g3;have B4:Blk w4 b 59 _:=B3.keep hg4 (fun e=>Xy ro3 B3 rfl e.symm);have G:GT (mutC X) n0 w w5:=(((Zgc h.co rfl h.cx hg1).trans (Uda B1 rfl h.hb h.bx hg2)).trans (GT.of_g g3)).trans ((Zgc ro3 rfl h.rx hg4).trans (Uda B4 rfl h.hb h.bx hg5));have so1:=Yi h.so hg1 (Ysa h.so h.co rfl);have so3:=Xl (Yi so1 hg2 (.inr (Xy so1 B1 rfl))) g3;have so4:=Yi so3 hg4 (Ysa so3 ro3 rfl);have so5:=Yi so4 hg5 (.inr (Xy so4 B4 rfl));have sr1:=h.sr.keep hg1 (Zhc h.co rfl);have sr3:=(sr1.keepb hg2 B1 rfl).grow g3;have sr5:=(sr3.keep hg4 (Zhc ro3 rfl)).keepb hg5 B4 rfl;have co3:=Xl (Yi co hg2 (.inr (Xy co B1 rfl))) g3;have co4:=Yi co3 hg4 (Ysa co3 ro3 rfl);have co5:=Yi co4 hg5 (.inr (Xy co4 B4 rfl));have ro5:=Yi ro hg5 (.inr (Xy ro B4 rfl));have hs3:w.heap.size≤w3.heap.size:=Aea (Aea hg1.size hg2.size) g3.size;refine h.oth G hB5 so5 sr5 ?_ ?_ ?_ hc (fun k hk=>(hr k hk).imp id fun q=>Aea hs3 q) J rfl
 have e:((litS S).next.take ((litS S).level+1)).map (fun (k:Nat)=>Value.int .i64 (k:Int))=((S.next.take (S.level+1)).map fun (k:Nat)=>Value.int .i64 (k:Int))++[.int .i64 0]:=by
  show ((S.next.take (S.level+1)++[0]).take (S.level+1+1)).map _=_;unfold Ln at hl;rw [Caa (by rw [Ada,Ava];simp only [List.length_cons,List.length_nil];omega),Bda];rfl
 rw [e];exact co5;have e1:(r0++[S.result]++[(litS S).result]).length=(r0++[S.result]).length+1:=by rw [Ada];rfl
 have e2:(r0++[S.result]++[(litS S).result]).flatMap tyCells=(r0++[S.result]).flatMap tyCells++tyCells ty0:=by rw [Bna];rfl
 have ro6:=ro5;rw [← e1,← e2] at ro6;exact ro6;intro l e;injection e with e;subst e;rw [Ada,h.rl _ rfl];rfl
theorem PK.pop{y:Ty}{ca ra:Option Addr}{cc rc cm rm:Nat}(h:PK F n0 b TB X (some (r0++[y])) T fv ms mg mn mf pv sv (.slice ca cm cc) (.slice ra rm rc) vs sc w)(hg1:w.grownBy w1 (some b))(hB1:Blk w1 b 59 (pcCells F fv ms mg mn mf sv (.slice ca (cm-1) cc) (.slice ra rm rc)))(g2:Go.Rk.G w1 w2)
 (hg3:w2.grownBy w3 (some b)) (hB3:Blk w3 b 59 (pcCells F fv ms mg mn mf sv (.slice ca (cm-1) cc) (.slice ra (rm-1) rc))):PK F n0 b TB X (some r0) { T with level:=T.level-1,result:=y } fv ms mg mn mf pv sv (.slice ca (cm-1) cc) (.slice ra (rm-1) rc) vs sc w3:=by
 have B2:=hB1.grow g2;have hrl:=h.rl _ rfl;rw [Ada,Aka] at hrl;have G:GT (mutC X) n0 w w3:=((Uda h.B rfl h.hb h.bx hg1).trans (GT.of_g g2)).trans (Uda B2 rfl h.hb h.bx hg3)
 have k3:∀ {e:Ba} {z m:Nat} {v:Fa} {xs:List Fa},w.ownsRow n0 e z v m xs→Aca e 59=false→w3.ownsRow n0 e z v m xs:=fun ho he=>by
  have h2:=Xl (Yi ho hg1 (.inr (Xy ho h.B he))) g2;exact Yi h2 hg3 (.inr (Xy h2 B2 he))
 have hcm:cm=T.level+1:=by
  obtain ⟨a,c,e,_⟩:=Zya h.co;injection e
 have hrm:rm=T.level+1:=by
  obtain ⟨a,c,e,_⟩:=Zya h.ro;injection e with _ e _;rw [e];show (r0++[y]++[T.result]).length=_;rw [Ada,Ada,Aka,Aka,hrl]
 refine h.oth (S':={ T with level:=T.level-1,result:=y }) G hB3 (k3 h.so J) (((h.sr.keepb hg1 h.B J).grow g2).keepb hg3 B2 J) ?_ ?_ (fun l e=>by injection e with e;subst e;show r0.length=T.level-1;omega) (fun k hk=>.inl (by cases ca <;> exact hk)) (fun k hk=>.inl (by cases ra <;> exact hk)) J rfl
 have q:=h.co;rw [show T.level+1=cm from hcm.symm] at q;have c:=Xmd (k3 q rfl) (j:=cm-1) (Nat.sub_le _ _);show w3.ownsRow n0 3 1 _ (T.level-1+1) _;rw [show T.level-1+1=cm-1 by omega];rw [Baa,← List.map_take,List.take_take,show min (cm-1) cm=cm-1 by omega] at c;exact c;have hl:(r0++[y]++[T.result]).length=rm:=by rw [Ada,Ada,Aka,Aka,hrl,hrm]
 have q:w.ownsRow n0 24 2 _ (r0++[y]++[T.result]).length ((r0++[y]++[T.result]).flatMap tyCells):=h.ro;rw [hl] at q;have c:=Xmd (k3 q rfl) (j:=rm-1) (Nat.sub_le _ _)
 have e:((r0++[y]++[T.result]).flatMap tyCells).take ((rm-1)*2)=(r0++[y]).flatMap tyCells:=by
  rw [Bna,List.take_append_of_le_length,Caa];rw [Wlb Yea,Ada,Aka];omega;rw [Wlb Yea,Ada,Aka];omega
 rw [e] at c;show w3.ownsRow n0 24 2 _ (r0++[y]).length _;rw [Ada,Aka,show r0.length+1=rm-1 by omega];exact c
end
theorem Xrd{F t:Nd}(HS:CxM 1000001 F 57 t (ckT F t).sts){n0 b:Nat}{TB X:List Nat}{r0:List Ty}{S:CSt}{w:Aa}{v:Fa}{N:Nat}(h:PC F n0 b TB X (some r0) S w)(he:S.ee=0)(hc:CanV S)(hk0:Kd w (fun k=>k<n0) t.kids v)(hb:Bd S N)(hn:N+count t+1≤1000000) :
 RetP PP 137 #[.pointer (some ⟨b,0,none⟩),ndV t v,tyV ty0] w (fun r w'=>((ckT F t).blk (litS S)).2.ee=0∧RetN ((ckT F t).blk (litS S)).1 w.heap.size r w'∧PC F n0 b TB X (some r0) { ((ckT F t).blk (litS S)).2 with level:=((ckT F t).blk (litS S)).2.level-1,result:=S.result } w'∧GT (mutC X) n0 w w') (Bad n0 b X (S.scope+1) ((ckT F t).blk (litS S)).2 w):=by
 obtain ⟨p,c,rfl,_⟩:=id hk0;have hlt:=h.lt;have htb:=h.tb;have htb2:∀ j∈TB,j<w.heap.size:=fun j hj=>htb.2 j (htb.1 j hj);have hlv:=hb.lv;have hnl:=hb.nl;have hbl:=Wlf (Yrf hb);obtain ⟨V,hV⟩:∃ V,V=(ckT F t).sts (openS (litS S)):=⟨_,rfl⟩;have eU:(ckT F t).blk (litS S)=(V.1,shutS V.2):=by rw [Wkf,← hV]
 have hst:Stp (count t) (openS (litS S)) V.2:=by rw [hV];exact (Uh F t).sts _
 have hvs:V.2.scope=S.scope+1:=hst.scope;have hscN:=hb.sc;rw [eU];obtain ⟨fv,ms,mg,mn,mf,pv,sv,cv,rv,vs,sc,h⟩:=h;have hrl:=h.rl _ rfl;have hnn:=h.L.hn;have g:=GT.refl (mutC X) n0 w;refine Vd (m:=63) Tryz.func137 J J [(0,True,_),(1,True,_),(2,True,_)] (Zb J (Zb J (Zb J (Zq _)))) ?_;refine BM fun b4 _ ga _ g E=>?_;have hp4:=h;have h:=Ui h;have hk0:=Ui hk0;refine BN fun b5 _ N5 _ g E=>?_;have hp5:=h;have h:=h.grow (N5.g);have hk0:=hk0.grow (N5.g);have h:=hp5.addX N5;refine AN fun b6 _ ga _ g E=>?_;have hp6:=h;have h:=Ui h;have hk0:=Ui hk0;refine AU ?_;refine Ya _ J Zoa Yec (pqc J pq0) J J ?_;intro b13 w13 N13;have l13:=Wc N13 g.size;have hp13:=h;have B13:=N13.blk;have g:=gtg g N13.g;replace E:=E.grow N13.g;have h:=h.grow (N13.g);have hk0:=hk0.grow (N13.g);refine Ur J Zoa Yec J Od (Zc J) h.co (Zc J) J N13.blk.row J (by simp only [maxLen];omega) O (by have:=g.size;omega) ?_;intro a14 c14 w14 co hg14 hat14;have Bc:Blk w14 b 59 _:=h.B.keep hg14 (fun e=>Xy h.co h.B rfl e.symm);have B14:=Bc;have co14:=co;have ro:w14.ownsRow n0 24 2 rv (r0++[S.result]).length ((r0++[S.result]).flatMap tyCells):=Yi h.ro hg14 (Ysa h.ro h.co rfl);have h14:=h;have g:=gtw g (Zgc h.co rfl h.cx hg14);replace E:=E.keep hg14 (Aba.2 ⟨fun e=>Xy h.co E.g0 rfl e.symm,Aba.2 ⟨(fun e=>h.cx b5 e.symm Os),Aba.2 ⟨fun e=>Xy h.co E.g2 rfl e.symm,Ana _⟩⟩⟩);clear h;refine AU ?_;refine Xi J Vmb (Zc J) (Zc J) J Bc J J ?_;intro w16 hg16 hz16 B16;have co:=Yi co hg16 (.inr (Xy co Bc rfl));have ro:=Yi ro hg16 (.inr (Xy ro Bc rfl));have g:=gtw g (Uda Bc rfl h14.hb h14.bx hg16);replace E:=E.keepT hg16 Bc rfl
 have Bc:=B16;have hk0:=hk0.keep hg14 (fun k hk _ e=>by have:=(h14.co.lt k e.symm).1;omega);have hk0:=hk0.keep hg16 (fun k hk _ e=>by injection e with e;omega);have g3:=G.refl w16;refine AU ?_;refine Xg [3,3,3,3,0,0,1,2,3,3,2] [true,true,true,true,true,true,true,true,true,true,true] [0,0,2,6,14,0,32,126,255,511,1023] mix KR ?_;have g:=gtd g;replace E:=E.dr;have h:=h.grow (G.drew _);have hk0:=hk0.grow (G.drew _);have co:=Xl co (G.drew _);have ro:=Xl ro (G.drew _);have Bc:=Bc.grow (G.drew _);have g3:=g3.trans (G.drew _);refine Zu J (Zu J (Vx J (Xa Vw J (Xn Vv J (Bc.at_ J) (Va Zj J J E.g1.row (Ya _ J Wd Yz (pqc J pq0) J J ?_))))));intro b23 w23 N23;have l23:=Wc N23 g.size;have hp23:=h;have B23:=N23.blk;have g:=gtg g N23.g;replace E:=E.grow N23.g;have hk0:=hk0.grow (N23.g);have co:=Xl co (N23.g);have ro:=Xl ro (N23.g);have Bc:=Bc.grow (N23.g);have g3:=g3.trans (N23.g);refine Ur J Wd Yz J Od (Zc J) ro (Zc J) J N23.blk.row J (by simp only [maxLen];simp;omega) (by simp;omega) (by have:=g.size;omega) ?_;intro a24 c24 w24 ro24 hg24 hat24;have B24:Blk w24 b 59 _:=Bc.keep hg24 (fun e=>Xy ro Bc rfl e.symm);have g:=gtw g (Zgc ro rfl h14.rx hg24);replace E:=E.keep hg24 (Aba.2 ⟨fun e=>Xy ro E.g0 rfl e.symm,Aba.2 ⟨(fun e=>h14.rx b5 e.symm Os),Aba.2 ⟨fun e=>Xy ro E.g2 rfl e.symm,Ana _⟩⟩⟩);have hk0:=hk0.keep hg24 (fun k hk _ e=>by have:=(ro.lt k e.symm).1;omega);refine AU ?_;refine Xi J Uz (Zc J) (Zc J) J B24 J J ?_;intro w26 hg26 hz26 B26;replace E:=E.keepT hg26 B24 rfl;have g:=gtw g (Uda B24 rfl h14.hb h14.bx hg26)
 have hk0:=hk0.keep hg26 (fun k hk _ e=>by injection e with e;omega);have h:=(h14.psh hb.lv hg14 co14 (fun k hk=>hat14.imp (fun q=>q.symm.trans hk) fun q=>by rw [hk] at q;injection q with q;omega) hg16 B16 g3 hg24 ro24 (fun k hk=>hat24.imp (fun q=>q.symm.trans hk) fun q=>by rw [hk] at q;injection q with q;omega) hg26 B26).pc;refine AU ?_;refine CL (Urc h (by show S.scope≤_;omega)) ?_;rintro v28 w28 ⟨rfl,h,g28⟩;refine ⟨nw1,?_⟩;have g:=gtw g g28;replace E:=E.gtx g28;have hk0:=hk0.gt g28 (fun k h=>h);refine AU ?_;refine Y2 J Vk J J (CxM.to HS [b4,b5,b6] h he hc hk0 hbl O (E.ltm Ob) g.size) ((fun ch w' hz=>Bad.pass hz (by rw [← hV];exact Er.refl _) (by show S.scope+1≤S.scope+1+1;omega) g)) ?_;rintro v31 w31 ⟨⟨p31,c31,rfl,q31,k31⟩,he31,h,g31⟩;refine ⟨nw1,?_⟩;have g:=gtw g g31;replace E:=E.gtx g31;rw [← hV] at k31 he31 h;refine AN fun _ _ ga _ g E=>?_;have hp7:=h;have k31:=Uj k31;have h:=Ui h;refine AS fun _ ga Ca g E=>?_;have h:=h.keep ga Ca O (.inl rfl);have k31:=k31.keep ga Oi;refine AU ?_;refine CL (Xyf h (by rw [hvs];omega) (by rw [hvs];omega)) ?_;rintro v33 w33 ⟨rfl,h,g33⟩;refine ⟨nw1,?_⟩;have g:=gtw g g33;replace E:=E.gtx g33;have k31:=k31.gtc g33;obtain ⟨fw,ns,ng,nn,nf,qv,sw,cw,rw,vt,sd,h⟩:=h;obtain ⟨ca,cc,rfl,_⟩:=Zya h.co;obtain ⟨ra,rc,rfl,_⟩:=Zya h.ro
 have hrl2:(rsT (some (r0++[S.result])) (shutS V.2).result).length=r0.length+2:=by
  show (r0++[S.result]++[(shutS V.2).result]).length=_;rw [Ada,Ada];rfl
 obtain ⟨rm,hrm⟩:∃ m,m=(rsT (some (r0++[S.result])) (shutS V.2).result).length:=⟨_,rfl⟩;obtain ⟨cm,hcm⟩:∃ m,m=(shutS V.2).level+1:=⟨_,rfl⟩;rw [← hrm,← hcm] at h;have hcl:cm=S.level+2:=by rw [hcm];show V.2.level+1=_;rw [hst.level];rfl
 refine AU ?_;refine Xg [3,3,3,3,0,3,3,3,0,3,3,3,3,3,2] [true,true,true,true,true,true,true,true,true,true,true,true,true,true,true] [0,0,2,6,14,0,32,96,224,480,992,2046,4095,8191,16383] mix KR ?_;have g:=gtd g;replace E:=E.dr;have h:=h.grow (G.drew _);have co:=Xl co (G.drew _);have ro:=Xl ro (G.drew _);have Bc:=Bc.grow (G.drew _);have k31:=k31.grow (G.drew _);refine AU ?_;refine Zz J (fun _=>Jeb Zoa (Zc J) (Zc J) (fun _=>O)) ?_;refine AU ?_;refine Xi J Vmb (Zc J) (Zc J) J h.B J J ?_;intro w47 hg47 hz47 B47;rw [show ((cm:Int)-1).toNat=cm-1 by omega] at B47;have g:=gtw g (Uda h.B rfl h.hb h.bx hg47);replace E:=E.keepT hg47 h.B rfl;have k31:=k31.keepb hg47 h.B rfl;have g2:=G.refl w47;have Bc:=B47;have h47:=h;clear h;refine AU ?_;refine Xg [3,3,3,3,0,3,3,3,0,3,3,3,3,3,2] [true,true,true,true,true,true,true,true,true,true,true,true,true,true,true] [0,0,2,6,14,0,32,96,224,480,992,2046,4095,8191,16383] mix KR ?_;have g:=gtd g;replace E:=E.dr;have h:=h.grow (G.drew _);have co:=Xl co (G.drew _);have ro:=Xl ro (G.drew _);have Bc:=Bc.grow (G.drew _);have g2:=g2.trans (G.drew _);have k31:=k31.grow (G.drew _);refine Zu J (Zu J (Vx J (Xa Vw J (Xn Vv J (Bc.at_ J) (Zu J (Vx J (Xa Vw J (Xn Vv J (Bc.at_ J) (Xva Wd J (Zz J (fun _=>Xia (Zc J) Xv (fun _=>O)) (Zz J (fun _=>Jeb Wd (Zc J) (Zc J) (fun _=>O)) (Vx J (Xa Vw J (Xi J Uz (Zc J) (Zc J) J Bc J J ?_))))))))))))));intro w61 hg61 hz61 B61;rw [show ((rm:Int)-1).toNat=rm-1 by omega] at B61;have g:=gtw g (Uda Bc rfl h47.hb h47.bx hg61);replace E:=E.keepT hg61 Bc rfl;have k31:=k31.keepb hg61 Bc rfl
 have h:=(h47.pop hg47 B47 g2 hg61 B61).pc;refine AS fun _ ga Ca g E=>?_;have h:=h.keep ga Ca O (.inl rfl);have k31:=k31.keep ga Oi;refine RTN ?_;subst hV;exact ⟨he31,Xh rfl (k31.kdN q31),h.sub htb.1 (by intro j hj;simp [hj]),g⟩
theorem Bad.shut{n0 b L:Nat}{X:List Nat}{T:CSt}{w w1:Aa}{ch:List Da}(h:Bad n0 b X (L+1) T w ch w1)(hb:n0≤b)(hx:b∉X):RetB PP 142 #[.pointer (some ⟨b,0,none⟩)] w1 fun r w2=>Bad n0 b X L T w ch w2 :=
 (Xzf h.2.2.1).mono fun r w2 hr=>by
 obtain ⟨_,_,_,_,_,_,_,_,_,_,_,hB,_⟩:=h.2.2.1;exact ⟨h.1,h.2.1,hr.2.1,h.2.2.2.trans (Uda hB rfl hb hx hr.2.2)⟩
theorem Wtc{n n0 b L L':Nat}{X X':List Nat}{T U:CSt}{w w0 w1:Aa}{ch:List Da}{fn:Func}{R:Fa→Aa→Prop}{σ:List Ent}(h:Bad n0 b X' (L'+1) T w ch w1)(hE:Er T U)(hL:L≤L')(g:GT (mutC X) n0 w0 w)(hb:n0≤b)(hx:b∉X')(hX:∀ j∈X,j∈X') :
 ∀ a,Kn n σ a→ZD PP fn R (Bad n0 b X L U w0) ch [fnD 142 #[] #[.pointer (some ⟨b,0,none⟩)]] a w1:=by
 have hs:settle (.panicking ch) = .panicking ch:=by rw [h.1];rfl
 exact Qtf Qq hs (h.shut hb hx) fun v w2 hv=>Wzg (hv.pass hE hL g hX)
theorem Ujd{n0 b L L':Nat}{X X':List Nat}{T U:CSt}{w w0 w1:Aa}{ch:List Da}{fn:Func}{R:Fa→Aa→Prop}(h:Bad n0 b X' (L'+1) T w ch w1)(hE:Er T U)(hL:L≤L')(g:GT (mutC X) n0 w0 w)(hb:n0≤b)(hx:b∉X')(hX:∀ j∈X,j∈X') :
  ∀ a,ZD PP fn R (Bad n0 b X L U w0) ch [fnD 142 #[] #[.pointer (some ⟨b,0,none⟩)]] a w1:=fun a =>
 Wtc (n:=a.tmps.size) (σ:=[]) h hE hL g hb hx hX { tmps:=a.tmps,defers:=[] } ⟨rfl,rfl,fun _ _ _ hl=>by cases hl⟩
theorem Uzc{P:Ea}{n:Nat}{ds:List Deferred}{N T:DPost}{X:List (Nat×DPost)}{Z:List Da→DPost}{σ:List Ent}{w:Aa}{id:Nat}{l:List Oper}(row:RelX)(cl:List Nat)(ms:List Nat)(hm:P.follows .mixedOrders=true)(hok:okT l cl ms=true)(L:List Nat)(hL:Ala l.length=L)
 (h:ST P (fun ch _ w=>∀ a',Z ch ds a' w) l cl ms row n (N ds) l.length L σ w.drew):SCD P none n ds (.region id l.toArray true) N X T Z σ w:=fun a ha=>by
 have h1:=h a ha;subst hL;have h2:=RT.wd (Z:=fun ch ds _ w=>∀ a',Z ch ds a' w) (N:=N) ds _ _ a w.drew ha.2.1 h1;have h3:RT P (fun ch=>onD (fun ds _ w=>∀ a',Z ch ds a' w)) l.toArray (clOf cl) (wtOf ms) row (onD N) l.toArray.size (Ala l.toArray.size) (wd ds a) w.drew:=by simpa using h2
 refine Qgb (Z:=fun ch=>onD (fun ds _ w=>∀ a',Z ch ds a' w)) (fun ch a d v w _ hz=>?_) (Vgc hok) (fun ch a w h=>h _) hm h3;have hz:∀ a',Z ch (a.put d v).defers a' w:=hz;rw [Zba] at hz;exact hz
theorem Qse{F t:Nd}(HS:CxM 1000001 F 57 t (ckT F t).sts):CxM 1000000 F 116 t (ckT F t).blk:=by
 intro n0 b TB X r0 S w v N h he hc hk0 hb hn;obtain ⟨p,c,rfl,_⟩:=id hk0;have hlt:=h.lt;have htb:=h.tb;have hbx:=h.nx;obtain ⟨V,hV⟩:∃ V,V=(ckT F t).sts (openS S):=⟨_,rfl⟩;have eU:(ckT F t).blk S=(V.1,shutS V.2):=by rw [Wkf,← hV]
 have hst:Stp (count t) (openS S) V.2:=by rw [hV];exact (Uh F t).sts _
 have hvs:V.2.scope=S.scope+1:=hst.scope;have hscN:=hb.sc;have hcp:=Uxa t;have hbl:=Wlf hb;rw [eU];have g:=GT.refl (mutC X) n0 w;refine Wib (m:=11) Tryz.func116 J J [(0,True,_),(1,True,_)] (Zb J (Zb J (Zq _))) ?_;refine Wf fun K1 hK1=>?_;refine Xz [1,1] ?_;refine Zqa J (Zc J) J ?_;intro b3 w3 N3;have l3:=Wc N3 g.size;have g:=gtg g N3.g;have h:=h.grow (N3.g);have hk0:=hk0.grow (N3.g);have B3:=N3.blk;refine Yt J Zp J ?_;intro b4 w4 N4;have x4_3:=N4.ne B3;have l4:=Wc N4 g.size;have g:=gtg g N4.g;replace B3:=B3.grow (N4.g);have h:=h.grow (N4.g);have hk0:=hk0.grow (N4.g);have B4:=N4.blk;refine SK [0,3,4] ?_;refine Ze (hK1 _ _ _ ?_);refine Wf fun K2 hK2=>?_;refine Xz [3,2] ?_;refine Zz J (fun _=>Zw (Zc J)) ?_;refine Xe J (Zy Xxa Wz (Yn (Zc J) (Xw)) J) (Urc h O) ?_;rintro v6 w6 ⟨rfl,h,g6⟩;refine ⟨nw1,?_⟩;have g:=gtw g g6;try replace B3:=B3.gt g6 rfl
 try replace B4:=B4.gt g6 rfl
 have hk0:=hk0.gt g6 (fun k h=>h);refine SK [0,3,4] ?_;refine Ze (hK2 _ _ _ ?_);refine Wf fun K3 hK3=>?_;refine Qua (k:=1) [3,2] J J J ?_;refine Zz J (fun _=>Zw (Zc J)) ?_;refine Ze (Yod (Voc Wz (Yn (Zc J) (Xw))) (hK3 _ _ _ ?_));refine DK [0,3,4] ?_;refine Wf fun K4 hK4=>?_;refine Xz [3,0,2,2] ?_;refine Zz J (fun _=>Zw (Zc J)) ?_;refine Qb J (Zo Zf (Zc J) J (fun _=>B3.row)) ?_;refine Yda J (Zy Vk Wz (Yn (Zc J) (Yn (Zc J) (Xw))) J) (CxM.to HS [b3,b4] h he hc hk0 hbl O (Aba.2 ⟨B3.lt,Aba.2 ⟨B4.lt,Ana _⟩⟩) g.size) ((fun ch w' hz=>Wtc hz (by rw [← hV];exact Er.refl _) (Aaa _) g O hbx (fun j hj=>hj))) ?_;rintro v10 w10 ⟨⟨p10,c10,rfl,q10,k10⟩,he10,h,g10⟩;refine ⟨nw1,?_⟩;have g:=gtw g g10;try replace B3:=B3.gt g10 rfl
 try replace B4:=B4.gt g10 rfl
 rw [← hV] at k10 he10 h;refine Xq J Yk (Zc J) (Zc J) J J B4 J J ?_;intro wS1 hgS1 hzS1;have C4:=B4;clear B4;intro B4;replace B3:=Kp B3 hgS1;have g:=Yb g hgS1 O;have h:=h.keep hgS1 C4 O (.inl rfl);have k10:=k10.keep hgS1 Oi;refine SK [4] ?_;refine Ze (hK4 _ _ _ ?_);refine Jyb (?_);refine Ynd Qq (Vub h (by rw [hvs];omega) (by rw [hvs];omega)) ?_;rintro v90 w90 ⟨rfl,h,g90⟩;have g:=gtw g g90;have B4:=B4.gt g90 rfl;have k10:=k10.gtc g90;refine Ymc (Yya J (Yoa J Zf J (by first|exact B3.row|exact B4.row) (Uc)) ?_);subst hV;exact ⟨he10,Xh rfl (k10.kdN q10),h,g⟩
theorem Js(t:Nd)(v:Fa)(D:Nat→Prop)(w:Aa){m0:Nat}(Z:List Nat)(hk:Kd w D t.kids v)(hc:count t≤1000000)(hZ:∀ j∈Z,j<w.heap.size)(hm:m0≤w.heap.size):Ret PP 53 #[ndV t v] w fun r w'=>(∃ p c,r=ndV (plainT t) (.slice p (plainT t).kids.length c)∧m0≤w.heap.size∧KdX w.heap.size Z w' (plainT t).kids (.slice p (plainT t).kids.length c))∧G w w' :=
 (Qpe t v D w hk hc).mono fun r w' hr=>by
 obtain ⟨⟨p,c,e,k⟩,g⟩:=hr;exact ⟨⟨p,c,e,hm,KdN.x k hZ⟩,g⟩
theorem Jaa{t:Nd}(h:t.kids=[]):plainT t=clnT t:=by rw [Vb,h];rfl
def ChM(F t:Nd):Prop:=∀ (first:Bool) {n0 b:Nat} {TB X:List Nat} {r0:List Ty} {S:CSt} {w:Aa} {v:Fa} {N:Nat},PC F n0 b TB X (some r0) S w→S.ee=0→CanV S→Kd w (fun k=>k<n0) t.kids v→Bd S N→N+count t≤1000000→
 RetP PP 115 #[.pointer (some ⟨b,0,none⟩),ndV t v,.bool (!first)] w (fun r w'=>((ckT F t).cas first S).2.ee=0∧RetN ((ckT F t).cas first S).1 w.heap.size r w'∧PC F n0 b TB X (some r0) ((ckT F t).cas first S).2 w'∧GT (mutC X) n0 w w') (Bad n0 b X (S.scope+1) ((ckT F t).cas first S).2 w)
theorem Zye{F t:Nd}(hl:t.kids.length=2)(h9:(Za t 0).kind=9→(Za t 0).kids=[])(KS:(Za t 0).kind≠9→CxM 1000000 F 87 (Za t 0) (ckT F (Za t 0)).st)(KB:CxM 1000001 F 57 (Za t 1) (ckT F (Za t 1)).sts):ChM F t:=by
 intro first n0 b TB X r0 S w v N h he hc hkw hb hn;obtain ⟨p,c,rfl,_⟩:=id hkw;have hk0:=hkw;have hlt:=h.lt;have htb:=h.tb;have hbx:=h.nx;have hs:=h.scs;have hcp:=Uxa t;have hscN:=hb.sc;have hln:=Wu t;have x0:ckX F t 0=ckT F (Za t 0):=Xx O;have x1:ckX F t 1=ckT F (Za t 1):=Xx O;have hc0:cN t 0=count (Za t 0):=Xya O;have hc1:cN t 1=count (Za t 1):=Xya O;have hsl:=Uca t 2;have hs2:sC t 2=0+cN t 0+cN t 1:=rfl;have hbl:=Wlf hb;obtain ⟨A,hA⟩:∃ A,A=bif decide ((Za t 0).kind=9) then (clnT (Za t 0),failU first t.pos 6 (openS S)) else (ckT F (Za t 0)).st (openS S):=⟨_,rfl⟩;obtain ⟨V,hV⟩:∃ V,V=(ckT F (Za t 1)).sts A.2:=⟨_,rfl⟩
 have eU:(ckT F t).cas first S=(annT t [A.1,V.1] ty0,shutS V.2):=by
  rw [Vm];show casR t (ckX F t) first S=_;unfold casR;rw [x0,x1,← hA];dsimp only;rw [← hV]
 have hsA:Stp (cN t 0) (openS S) A.2:=by
  rw [hA];cases decide ((Za t 0).kind=9);rw [hc0];exact (Uh F _).st _;exact ((Stp.refl _).failu first t.pos 6).mono (Apa _)
 have hsV:Stp (count (Za t 1)) A.2 V.2:=by rw [hV];exact (Uh F _).sts _
 have hvs:V.2.scope=S.scope+1:=hsV.scope.trans hsA.scope;have hbA:=hsA.bd _ hbl
 have hcA:CanV A.2:=by
  rw [hA];cases decide ((Za t 0).kind=9);exact (Uhc F _).st _ (Uua hs) hc;exact ((Vs.refl (openS S)).failu first t.pos 6).can hc
 have erA:Er A.2 ((ckT F t).cas first S).2:=by rw [eU];exact hsV.e
 have g:=GT.refl (mutC X) n0 w;refine Wib (m:=46) Tryz.func115 J J [(0,True,_),(1,True,_),(2,True,_)] (Zb J (Zb J (Zb J (Zq _)))) ?_;refine Wf fun K1 hK1=>?_;refine Xz [1,1] ?_;refine Zqa J (Zc J) J ?_;intro b4 w4 N4;have l4:=Wc N4 g.size;have g:=gtg g N4.g;have h:=h.grow (N4.g);have hk0:=hk0.grow (N4.g);have B4:=N4.blk;refine Yt J Zp J ?_;intro b6 w6 N6;have x6_4:=N6.ne B4;have l6:=Wc N6 g.size;have g:=gtg g N6.g;replace B4:=B4.grow (N6.g);have h:=h.grow (N6.g);have hk0:=hk0.grow (N6.g);have B6:=N6.blk;refine SK [0,2,4,6] ?_;refine Ze (hK1 _ _ _ ?_);refine Wf fun K2 hK2=>?_;refine Xz [0,1,1,2] ?_;refine Qb J (Zo Zf (Zc J) J (fun _=>B4.row)) ?_;refine Xe J (Zy Jya Wz (Yn (Zc J) (Xw)) J) (Jr t _ _ _) ?_;rintro v10 w10 ⟨rfl,g10⟩;refine ⟨fun _=>g10,?_⟩;have g:=gtg g g10;replace B4:=B4.grow (g10);replace B6:=B6.grow (g10);have h:=h.grow (g10);have hk0:=hk0.grow (g10);refine Yt J Zp J ?_;intro b7 w7 N7;have x7_4:=N7.ne B4;have x7_6:=N7.ne B6;have l7:=Wc N7 g.size;have g:=gtg g N7.g;replace B4:=B4.grow (N7.g);replace B6:=B6.grow (N7.g);have h:=h.grow (N7.g);have hk0:=hk0.grow (N7.g);have B7:=N7.blk;refine Xq J Yk (Zc J) (Zc J) J J B7 J J ?_;intro wS1 hgS1 hzS1;have C7:=B7;clear B7;intro B7;replace B4:=Kp B4 hgS1;replace B6:=Kp B6 hgS1;have g:=Yb g hgS1 O;have h:=h.keep hgS1 C7 O (.inl rfl);have hk0:=hk0.keep hgS1 (fun k hk _ e=>by injection e with e;omega);refine SK [0,2,4,6,7] ?_;refine Ze (hK2 _ _ _ ?_);refine Wf fun K3 hK3=>?_;refine Xz [3,2] ?_;refine Zz J (fun _=>Zw (Zc J)) ?_;refine Xe J (Zy Xxa Wz (Yn (Zc J) (Xw)) J) (Urc h O) ?_;rintro v12 w12 ⟨rfl,h,g12⟩;refine ⟨nw1,?_⟩;have g:=gtw g g12;try replace B4:=B4.gt g12 rfl
 try replace B6:=B6.gt g12 rfl
 try replace B7:=B7.gt g12 rfl
 have hk0:=hk0.gt g12 (fun k h=>h);refine SK [0,2,4,6,7] ?_;refine Ze (hK3 _ _ _ ?_);refine Wf fun K4 hK4=>?_;refine Qua (k:=1) [3,2] J J J ?_;refine Zz J (fun _=>Zw (Zc J)) ?_;refine Ze (Yod (Voc Wz (Yn (Zc J) (Xw))) (hK4 _ _ _ ?_));refine DK [0,2,4,6,7] ?_;refine Wf fun K5 hK5=>?_;refine Xz [3,0,3,0,1,1,2] ?_;refine Zz J (fun _=>Zh Zg (Zc J)) ?_;refine Qb J (Zt Zi (Zc J) (fun _=>B4.at_ J)) ?_;obtain ⟨hpe,p_16,c_16,hcell,hkid⟩:=Yr hk0 (i:=0) O;refine Yja Zd J J O hpe ?_;refine Qb J (Zo Zf (Zc J) J (fun _=>hcell)) ?_;refine Xe J (Zy Xzb Wz (Yn (Zc J) (Xw)) J) (Js (Za t 0) _ _ _ [b4,b6,b7] hkid O (Aba.2 ⟨B4.lt,Aba.2 ⟨B6.lt,Aba.2 ⟨B7.lt,Ana _⟩⟩⟩) g.size) ?_;rintro v18 w18 ⟨⟨p18,c18,rfl,q18,k18⟩,g18⟩;refine ⟨fun _=>g18,?_⟩;have g:=gtg g g18;replace B4:=B4.grow (g18);replace B6:=B6.grow (g18);replace B7:=B7.grow (g18);have h:=h.grow (g18);have hk0:=hk0.grow (g18);refine Yt J Zp J ?_;intro b8 w8 N8;have x8_4:=N8.ne B4;have x8_6:=N8.ne B6;have x8_7:=N8.ne B7;have l8:=Wc N8 g.size;have k18:=k18.new N8;have g:=gtg g N8.g;replace B4:=B4.grow (N8.g);replace B6:=B6.grow (N8.g);replace B7:=B7.grow (N8.g);have h:=h.grow (N8.g);have hk0:=hk0.grow (N8.g);have B8:=N8.blk;refine Xq J Yk (Zc J) (Zc J) J J B8 J J ?_;intro wS2 hgS2 hzS2;have C8:=B8;clear B8;intro B8;replace B4:=Kp B4 hgS2;replace B6:=Kp B6 hgS2;replace B7:=Kp B7 hgS2;have g:=Yb g hgS2 O;have h:=h.keep hgS2 C8 O (.inl rfl);have hk0:=hk0.keep hgS2 (fun k hk _ e=>by injection e with e;omega);have k18:=k18.keep hgS2 Oi;refine SK [0,2,4,6,7,8] ?_
 refine Ze (hK5 _ _ _ ?_);refine Wf fun K6 hK6=>?_;refine Wf fun K7 hK7=>?_;refine Xz [3,0,3,3,0,3] ?_;refine Zz J (fun _=>Zh Zg (Zc J)) ?_;refine Qb J (Zt Zi (Zc J) (fun _=>B4.at_ J)) ?_;obtain ⟨hpe,p_21,c_21,hcell,hkid⟩:=Yr hk0 (i:=0) O;refine Yja Zd J J O hpe ?_;refine Zz J (fun _=>Zh Xd (Zc J)) ?_;refine Qb J (Zt Yf (Zc J) (fun _=>hcell.one (i:=0) J)) ?_;refine Zz J (fun _=>Wna (Zc J) Xv) ?_;refine SK [0,2,4,6,7,8,24] ?_;refine Ze (hK7 _ _ _ ?_);refine Whb (Zc J) (fun h1=>?_) (fun h1=>?_);replace h1:(Za t 0).kind=9:=Zch h1;have eA:A=(clnT (Za t 0),failU first t.pos 6 (openS S)):=by rw [hA,Jyg h1];rfl
 rw [Jaa (h9 h1)] at B8 k18;refine Xz [3,3,3,0,1] ?_;refine Zz J (fun _=>Zw (Zc J)) ?_;refine Zz J (fun _=>Wzc (Zc J)) ?_;refine Zz J (fun _=>Zh Xp (Zc J)) ?_;refine Qb J (Zt Yf (Zc J) (fun _=>B4.at_ J)) ?_;refine Yda J (Zy Yd Wz (Yn (Zc J) (Yn (Zc J) (Yn Xv (Xw)))) J) (Wy _ _ _ _) ((fun ch w' hz=>Wtc (Un h he Od (by rw [eA,Bma];exact Er.refl _) hz (GT.refl _ _ _) (Aaa _)) erA (Aaa _) g O hbx (fun j hj=>hj))) ?_;rintro v29 w29 ⟨rfl,hq,g29⟩;refine ⟨fun _=>g29,?_⟩;have g:=gtg g g29;replace B4:=B4.grow (g29);replace B6:=B6.grow (g29);replace B7:=B7.grow (g29);replace B8:=B8.grow (g29);have h:=h.grow (g29);have hk0:=hk0.grow (g29);have k18:=k18.grow (g29);rw [Bma] at hq;have eA2:A.2=openS S:=by rw [eA,hq];rfl
 have heA:A.2.ee=0:=by rw [eA2];exact he
 rw [← eA2] at h;refine SK [0,4,6,7,8] ?_;refine Ze (hK6 _ _ _ ?_);refine Wf fun K8 hK8=>?_;refine Uzc (gtC X n0) [0,3,3,0,3,0,1,1,3,2] [0,0,0,4,12,28,62,127,255,511] mix KR [0,1,2,3,4,5,6,7,8,9] J ?_;have g:=gtd g;replace B4:=B4.grow (G.drew _);replace B6:=B6.grow (G.drew _);replace B7:=B7.grow (G.drew _);replace B8:=B8.grow (G.drew _);have h:=h.grow (G.drew _);have hk0:=hk0.grow (G.drew _);have k18:=k18.grow (G.drew _);refine Jgb (L':=[1,2,3,4,5,6,7,8,9]) 0 J J J (fun w1 hx=>Zo Zf (Zc J) J (fun _=>(B8.gt hx J).row)) ?_;refine Vva (L':=[2,3,4,5,6,7,8,9]) 1 J J J (fun _=>Zw (Zc J)) ?_;refine Vva (L':=[3,4,5,6,7,8,9]) 2 J J J (fun _=>Zh Zg (Zc J)) ?_;refine Jgb (L':=[4,5,6,7,8,9]) 3 J J J (fun w1 hx=>Zt Zi (Zc J) (fun _=>(B4.gt hx J).at_ J)) ?_;obtain ⟨hpe,p_40,c_40,hcell,hkid⟩:=Yr hk0 (i:=1) O;refine Vva (L':=[5,6,7,8,9]) 4 J J J (fun _=>Xr Zd (Zc J) Xv (fun _=>O) (fun _=>hpe)) ?_;refine Jgb (L':=[6,7,8,9]) 5 J J J (fun w1 hx=>Zo Zf (Zc J) J (fun _=>hcell.gt hx (Vq hk0 (i:=1) O))) ?_;refine Zm 6 J J ?_;refine Zl (L':=[7,8,9]) [0,3,3,0,3,0,2,1,3,2] J J J ?_;refine Yda J (Zy Vk Wz (Yn (Zc J) (Yn (Zc J) (Xw))) J) (CxM.to KB [b4,b6,b7,b8] h heA hcA hkid hbA O (Aba.2 ⟨B4.lt,Aba.2 ⟨B6.lt,Aba.2 ⟨B7.lt,Aba.2 ⟨B8.lt,Ana _⟩⟩⟩⟩) g.size) ((fun ch w' hz=>fun _ _=>Ujd hz (by rw [eU,← hV];exact Er.refl _) (by rw [hsA.scope];exact Aaa _) g O hbx (fun j hj=>hj))) ?_;rintro v42 w42 ⟨⟨p42,c42,rfl,q42,k42⟩,he42,h,g42⟩;refine ⟨nw1,?_⟩;have g:=gtw g g42;try replace B4:=B4.gt g42 rfl
 try replace B6:=B6.gt g42 rfl
 try replace B7:=B7.gt g42 rfl
 try replace B8:=B8.gt g42 rfl
 have k18:=k18.gtc g42;rw [← hV] at he42 h;refine Zs (g42) ?_;refine Zm 7 J J ?_;refine Zl (L':=[8,9]) [0,3,3,0,3,0,2,1,3,2] J J J ?_;refine Ya _ J Zd Zp (pqc J (pqc J pq0)) J J ?_;intro b43 w43 N43;have x43_4:=N43.ne B4;have x43_6:=N43.ne B6;have x43_7:=N43.ne B7;have x43_8:=N43.ne B8;have l43:=Wc N43 g.size;have k18:=k18.new N43;have k42:=k42.new N43;have g:=gtg g N43.g;replace B4:=B4.grow (N43.g);replace B6:=B6.grow (N43.g);replace B7:=B7.grow (N43.g);replace B8:=B8.grow (N43.g);have h:=h.grow (N43.g);have B43:=N43.blk;refine Zs (GT.of_g (N43.g)) ?_;refine Vva (L':=[9]) 8 J J J (fun _=>Zh Zg (Zc J)) ?_;refine Zm 9 J J ?_;refine Ys (L':=[]) [0,3,3,0,3,0,2,1,3,2] J J J J ?_;refine Xi J Vi (Zc J) (Zc J) J B7 J J ?_;intro wS3 hgS3 hzS3;have C7:=B7;clear B7;intro B7;replace B4:=Kp B4 hgS3;replace B6:=Kp B6 hgS3;replace B8:=Kp B8 hgS3;replace B43:=Kp B43 hgS3;have g:=Yb g hgS3 O;have h:=h.keep hgS3 C7 O (.inl rfl);have k18:=k18.keep hgS3 Oi;have k42:=k42.keep hgS3 Oi;refine Xm ?_;refine TK [6,7] ?_;refine Jl (hK8 _ _ _ ?_);refine Wf fun K9 hK9=>?_;refine Xz [0,2] ?_;refine Qb J (Zo Zf (Zc J) J (fun _=>B7.row)) ?_;refine Xq J Yk (Zc J) (Zc J) J J B6 J J ?_;intro wS4 hgS4 hzS4;have C6:=B6;clear B6;intro B6;replace B4:=Kp B4 hgS4;replace B7:=Kp B7 hgS4;replace B8:=Kp B8 hgS4;replace B43:=Kp B43 hgS4;have g:=Yb g hgS4 O;have h:=h.keep hgS4 C6 O (.inl rfl);have k18:=k18.keep hgS4 Oi;have k42:=k42.keep hgS4 Oi;refine SK [6] ?_
 refine Ze (hK9 _ _ _ ?_);refine Jyb (?_);refine Ynd Qq (Vub h (by rw [hvs];omega) (by rw [hvs];omega)) ?_;rintro v90 w90 ⟨rfl,h,g90⟩;have g:=gtw g g90;have B6:=B6.gt g90 rfl;have B43:=B43.gt g90 rfl;have k18:=k18.gtc g90;have k42:=k42.gtc g90;refine Ymc (Yya J (Yoa J Zf J (by first|exact B4.row|exact B6.row|exact B7.row|exact B8.row|exact B43.row) (Uc)) ?_);have e1:clnT (Za t 0)=A.1:=by rw [eA]
 rw [eU];refine ⟨he42,?_,h,g⟩;rw [hV,← e1];exact Xh (t:=annT t [_,_] ty0) rfl (Zsa (ks:=[_,_]) ⟨l43,Jp B43⟩ B43.row (Qe (k18.kdN q18) (Ve (k42.kdN q42))) (Aaa _));replace h1:(Za t 0).kind≠9:=Zdh h1;have eA:A=(ckT F (Za t 0)).st (openS S):=by rw [hA,Jxg h1];rfl
 refine Xz [3,3,0,3,0,2,2] ?_;refine Zz J (fun _=>Zw (Zc J)) ?_;refine Zz J (fun _=>Zh Zg (Zc J)) ?_;refine Qb J (Zt Zi (Zc J) (fun _=>B4.at_ J)) ?_;obtain ⟨hpe,p_33,c_33,hcell,hkid⟩:=Yr hk0 (i:=0) O;refine Yja Zd J J O hpe ?_;refine Qb J (Zo Zf (Zc J) J (fun _=>hcell)) ?_;refine Yda J (Zy Qp Wz (Yn (Zc J) (Yn (Zc J) (Xw))) J) (CxM.to (KS h1) [b4,b6,b7,b8] h he hc hkid hbl O (Aba.2 ⟨B4.lt,Aba.2 ⟨B6.lt,Aba.2 ⟨B7.lt,Aba.2 ⟨B8.lt,Ana _⟩⟩⟩⟩) g.size) ((fun ch w' hz=>Wtc hz (by rw [← eA];exact erA) (Aaa _) g O hbx (fun j hj=>hj))) ?_;rintro v35 w35 ⟨⟨p35,c35,rfl,q35,k35⟩,heA,h,g35⟩;refine ⟨nw1,?_⟩;have g:=gtw g g35;try replace B4:=B4.gt g35 rfl
 try replace B6:=B6.gt g35 rfl
 try replace B7:=B7.gt g35 rfl
 try replace B8:=B8.gt g35 rfl
 have hk0:=hk0.gt g35 (fun k h=>h);rw [← eA] at k35 heA h;refine Xq J Yk (Zc J) (Zc J) J J B8 J J ?_;intro wS5 hgS5 hzS5;have C8:=B8;clear B8;intro B8;replace B4:=Kp B4 hgS5;replace B6:=Kp B6 hgS5;replace B7:=Kp B7 hgS5;have g:=Yb g hgS5 O;have h:=h.keep hgS5 C8 O (.inl rfl);have hk0:=hk0.keep hgS5 (fun k hk _ e=>by injection e with e;omega);have k35:=k35.keep hgS5 Oi;refine SK [0,4,6,7,8] ?_;refine Ze (hK6 _ _ _ ?_);refine Wf fun K10 hK10=>?_;refine Uzc (gtC X n0) [0,3,3,0,3,0,1,1,3,2] [0,0,0,4,12,28,62,127,255,511] mix KR [0,1,2,3,4,5,6,7,8,9] J ?_;have g:=gtd g;replace B4:=B4.grow (G.drew _);replace B6:=B6.grow (G.drew _);replace B7:=B7.grow (G.drew _);replace B8:=B8.grow (G.drew _);have h:=h.grow (G.drew _);have hk0:=hk0.grow (G.drew _);have k35:=k35.grow (G.drew _);refine Jgb (L':=[1,2,3,4,5,6,7,8,9]) 0 J J J (fun w1 hx=>Zo Zf (Zc J) J (fun _=>(B8.gt hx J).row)) ?_;refine Vva (L':=[2,3,4,5,6,7,8,9]) 1 J J J (fun _=>Zw (Zc J)) ?_;refine Vva (L':=[3,4,5,6,7,8,9]) 2 J J J (fun _=>Zh Zg (Zc J)) ?_;refine Jgb (L':=[4,5,6,7,8,9]) 3 J J J (fun w1 hx=>Zt Zi (Zc J) (fun _=>(B4.gt hx J).at_ J)) ?_;obtain ⟨hpe,p_40,c_40,hcell,hkid⟩:=Yr hk0 (i:=1) O;refine Vva (L':=[5,6,7,8,9]) 4 J J J (fun _=>Xr Zd (Zc J) Xv (fun _=>O) (fun _=>hpe)) ?_;refine Jgb (L':=[6,7,8,9]) 5 J J J (fun w1 hx=>Zo Zf (Zc J) J (fun _=>hcell.gt hx (Vq hk0 (i:=1) O))) ?_;refine Zm 6 J J ?_;refine Zl (L':=[7,8,9]) [0,3,3,0,3,0,2,1,3,2] J J J ?_
 refine Yda J (Zy Vk Wz (Yn (Zc J) (Yn (Zc J) (Xw))) J) (CxM.to KB [b4,b6,b7,b8] h heA hcA hkid hbA O (Aba.2 ⟨B4.lt,Aba.2 ⟨B6.lt,Aba.2 ⟨B7.lt,Aba.2 ⟨B8.lt,Ana _⟩⟩⟩⟩) g.size) ((fun ch w' hz=>fun _ _=>Ujd hz (by rw [eU,← hV];exact Er.refl _) (by rw [hsA.scope];exact Aaa _) g O hbx (fun j hj=>hj))) ?_;rintro v42 w42 ⟨⟨p42,c42,rfl,q42,k42⟩,he42,h,g42⟩;refine ⟨nw1,?_⟩;have g:=gtw g g42;try replace B4:=B4.gt g42 rfl
 try replace B6:=B6.gt g42 rfl
 try replace B7:=B7.gt g42 rfl
 try replace B8:=B8.gt g42 rfl
 have k35:=k35.gtc g42;rw [← hV] at he42 h;refine Zs (g42) ?_;refine Zm 7 J J ?_;refine Zl (L':=[8,9]) [0,3,3,0,3,0,2,1,3,2] J J J ?_;refine Ya _ J Zd Zp (pqc J (pqc J pq0)) J J ?_;intro b43 w43 N43;have x43_4:=N43.ne B4;have x43_6:=N43.ne B6;have x43_7:=N43.ne B7;have x43_8:=N43.ne B8;have l43:=Wc N43 g.size;have k35:=k35.new N43;have k42:=k42.new N43;have g:=gtg g N43.g;replace B4:=B4.grow (N43.g);replace B6:=B6.grow (N43.g);replace B7:=B7.grow (N43.g);replace B8:=B8.grow (N43.g);have h:=h.grow (N43.g);have B43:=N43.blk;refine Zs (GT.of_g (N43.g)) ?_;refine Vva (L':=[9]) 8 J J J (fun _=>Zh Zg (Zc J)) ?_;refine Zm 9 J J ?_;refine Ys (L':=[]) [0,3,3,0,3,0,2,1,3,2] J J J J ?_;refine Xi J Vi (Zc J) (Zc J) J B7 J J ?_;intro wS6 hgS6 hzS6;have C7:=B7;clear B7;intro B7;replace B4:=Kp B4 hgS6;replace B6:=Kp B6 hgS6;replace B8:=Kp B8 hgS6;replace B43:=Kp B43 hgS6;have g:=Yb g hgS6 O;have h:=h.keep hgS6 C7 O (.inl rfl);have k35:=k35.keep hgS6 Oi;have k42:=k42.keep hgS6 Oi;refine Xm ?_;refine TK [6,7] ?_;refine Jl (hK10 _ _ _ ?_);refine Wf fun K11 hK11=>?_;refine Xz [0,2] ?_;refine Qb J (Zo Zf (Zc J) J (fun _=>B7.row)) ?_;refine Xq J Yk (Zc J) (Zc J) J J B6 J J ?_;intro wS7 hgS7 hzS7;have C6:=B6;clear B6;intro B6;replace B4:=Kp B4 hgS7;replace B7:=Kp B7 hgS7;replace B8:=Kp B8 hgS7;replace B43:=Kp B43 hgS7;have g:=Yb g hgS7 O;have h:=h.keep hgS7 C6 O (.inl rfl);have k35:=k35.keep hgS7 Oi;have k42:=k42.keep hgS7 Oi;refine SK [6] ?_
 refine Ze (hK11 _ _ _ ?_);refine Jyb (?_);refine Ynd Qq (Vub h (by rw [hvs];omega) (by rw [hvs];omega)) ?_;rintro v90 w90 ⟨rfl,h,g90⟩;have g:=gtw g g90;have B6:=B6.gt g90 rfl;have B43:=B43.gt g90 rfl;have k35:=k35.gtc g90;have k42:=k42.gtc g90;refine Ymc (Yya J (Yoa J Zf J (by first|exact B4.row|exact B6.row|exact B7.row|exact B8.row|exact B43.row) (Uc)) ?_);rw [eU];refine ⟨he42,?_,h,g⟩;rw [← eA] at B43;rw [hV];exact Xh (t:=annT t [_,_] ty0) rfl (Zsa (ks:=[_,_]) ⟨l43,Jp B43⟩ B43.row (Qe (k35.kdN q35) (Ve (k42.kdN q42))) (Aaa _))
theorem Wmf{sc:List (List Vr)}{m:Nat}{l:List Vr}{x:Vr}(hl:sc.length=m+1)(hm:sc[m]? = some l):(sc.set m (l++[x])).flatten=sc.flatten++[x]:=by
 have hlt:m<sc.length:=by omega
 have e:sc[m]=l:=(List.getElem?_eq_some_iff.1 hm).2
 have h1:sc=sc.take m++[l]:=by
  conv=>lhs;rw [← Bwa m sc,Bja hlt]
  rw [Aua O,e]
 have h2:sc.set m (l++[x])=sc.take m++[l++[x]]:=by
  rw [List.set_eq_take_append_cons_drop,if_pos hlt,Aua O]
 rw [h2];conv=>rhs;rw [h1]
 simp
section
variable {F:Nd} {n0 b:Nat} {TB X:List Nat} {r0:Option (List Ty)} {S:CSt} {fv:Fa} {ms mg mn mf:Nat} {pv:Nat→Fa} {sv cv rv:Fa} {vs:List Fa} {sc:List (List Vr)} {w w' w1 w2 w3 w4 w5:Aa}
theorem PK.dup(h:PK F n0 b TB X r0 S fv ms mg mn mf pv sv cv rv vs sc w){l:List Vr}(hl:sc[S.scope]? = some l)(s:List UInt8):dupV S s=l.any fun v=>decide (v.name=s):=by
 unfold dupV;rw [← h.fl,Bool.eq_iff_iff,List.any_eq_true,List.any_eq_true];constructor;rintro ⟨v,hv,h1⟩;rw [Aga] at h1;obtain ⟨k,hk,hv⟩:=Aya.1 hv;obtain ⟨i,hi,rfl⟩:=Bea hk;have h2:=h.ss i _ (Aia hi) v hv;have h3:v.scope=S.scope:=Zch h1.1;rw [h2] at h3;subst h3;rw [Aia hi] at hl;injection hl with hl;subst hl;exact ⟨v,hv,h1.2⟩;rintro ⟨v,hv,h1⟩;exact ⟨v,Aya.2 ⟨l,Bxa hl,hv⟩,by rw [h.ss _ _ hl v hv,Jyg rfl,h1];rfl⟩
theorem Xsd{s:List UInt8}{y:Ty}{a:Int}(h:dupV S s=false):declS s y a S = { S with next:=S.next.set S.level (declN S+1),vars:=S.vars++[⟨s,y,declN S,S.level,S.scope⟩] }:=by
 unfold declS;rw [h];rfl
theorem PK.dcl(h:PK F n0 b TB X r0 S fv ms mg mn mf pv sv cv rv vs sc w){s:List UInt8}{y:Ty}{a:Int}{l:List Vr}{u u':Fa}(hl:sc[S.scope]? = some l)(hu:vs[S.scope]? = some u)(hd:dupV S s=false)(hlv:Ln S)
 (hg1:w.grownBy w1 u.ownBlock) (ho1:w1.ownsRow n0 84 5 u' (l.length+1) (l.flatMap pvCells++pvCells ⟨s,y,declN S,S.level,S.scope⟩)) (hat:∀ k,u'.ownBlock=some k→u.ownBlock=some k∨w.heap.size≤k)
 (hg2:w1.grownBy w2 sv.ownBlock) (so:w2.ownsRow n0 82 1 sv vs.length (vs.set S.scope u')) (hg3:w2.grownBy w3 cv.ownBlock) (co:w3.ownsRow n0 3 1 cv (S.level+1) (((S.next.take (S.level+1)).map fun (k:Nat)=>Value.int .i64 (k:Int)).set S.level (.int .i64 ((declN S+1:Nat):Int)))) :
 PK F n0 b TB X r0 (declS s y a S) fv ms mg mn mf pv sv cv rv (vs.set S.scope u') (sc.set S.scope (l++[⟨s,y,declN S,S.level,S.scope⟩])) w3∧GT (mutC X) n0 w w3:=by
 obtain ⟨l',hl',hr⟩:=h.sr.ex hu;rw [hl] at hl';injection hl' with hl';subst hl';have hux:=h.vx _ _ hu;have so1:=Yi h.so hg1 (Ysa h.so hr rfl);have co1:=Yi h.co hg1 (Ysa h.co hr rfl);have co2:=Yi co1 hg2 (Ysa co1 so1 rfl);have ro1:=Yi h.ro hg1 (Ysa h.ro hr rfl);have ro2:=Yi ro1 hg2 (Ysa ro1 so1 rfl);have B1:Blk w1 b 59 _:=h.B.keep hg1 (fun e=>Xy hr h.B rfl e.symm);have B2:Blk w2 b 59 _:=B1.keep hg2 (fun e=>Xy so1 B1 rfl e.symm);have B3:Blk w3 b 59 _:=B2.keep hg3 (fun e=>Xy co2 B2 rfl e.symm);have G:GT (mutC X) n0 w w3:=((Zgc hr rfl hux hg1).trans (Zgc so1 rfl h.sx hg2)).trans (Zgc co2 rfl h.cx hg3);obtain ⟨t1,t2,t3,t4⟩:=h.tabs G;have hsl:=h.sl;have hm:S.scope<sc.length:=by omega
 have sr1:=h.sr.set (l':=l++[⟨s,y,declN S,S.level,S.scope⟩]) hu hg1 (by rw [Ada,Bna];simpa using ho1) hat;have sr3:=(sr1.keep hg2 (Zhc so1 rfl)).keep hg3 (Zhc co2 rfl);rw [Xsd hd];refine ⟨⟨B3,h.hb,t1,h.hF,t2,t3,?_,sr3,?_,?_,?_,?_,Yi ro2 hg3 (Ysa ro2 co2 J),h.rl,h.tx,t4,h.bx,h.sx,?_,h.cx,h.rx,by rw [Boa];exact h.sz⟩,G⟩;rw [Boa];exact Yi so hg3 (Ysa so co2 rfl);rw [Wmf hsl hl,h.fl];rw [Boa];exact hsl;intro i k hk v hv;by_cases hi:S.scope=i;subst hi;rw [Cba hm] at hk;injection hk with hk;subst hk;rcases Bca.1 hv with q|q;exact h.ss _ _ hl v q;rw [Ata.1 q];rw [Cca hi] at hk;exact h.ss i k hk v hv
 have e:((S.next.set S.level (declN S+1)).take (S.level+1)).map (fun (k:Nat)=>Value.int .i64 (k:Int))=((S.next.take (S.level+1)).map fun (k:Nat)=>Value.int .i64 (k:Int)).set S.level (.int .i64 ((declN S+1:Nat):Int)):=by
  rw [List.take_set,List.map_set]
 show w3.ownsRow n0 3 1 cv (S.level+1) (((S.next.set S.level (declN S+1)).take (S.level+1)).map _);rw [e];exact co;intro i v hv k hk;by_cases hi:S.scope=i;subst hi;rw [Cba (by rw [h.sr.len];exact hm)] at hv;injection hv with hv;subst hv;rcases hat k hk with q|q;exact hux k q;intro hx;have:=h.xl k hx;omega;rw [Cca hi] at hv;exact h.vx i v hv k hk
end
end Go.Rk
