/- Merged texts. Conditions: each text's own. -/
import Derived.Test.YtmpfjifhkmdbaaaGreatDoorI02
import Derived.Test.YtmpfjifhkmdbaaaGreatDoorI04
set_option linter.unusedSimpArgs false
set_option linter.unusedVariables false
set_option maxHeartbeats 16000000
set_option maxRecDepth 100000
open Bool renaming xor→Ala,not_not→Ana,and_eq_true→Ara,and_eq_true_iff→Asa
open Go renaming World→Aa,PanicEntry→Ba,Value→Da
open Go.World renaming block_lt_of_cell?→Ea,cell?_of_block→Fa
open List renaming forall_mem_cons→Aba,length_append→Ada,getElem?_eq_getElem→Aea,mem_cons_of_mem→Afa,length_singleton→Aga,forall_mem_nil→Aha,length_set→Aja,getD_eq_getElem?_getD→Ama,flatMap_append→Apa,any_eq_true→Aqa,take_of_length_le→Ata,drop_eq_nil_of_le→Aua,mem_of_getElem?→Ava,getElem?_set_self→Awa,getElem?_set_ne→Axa,length_eq_zero_iff→Aya
open Nat renaming le_refl→Aaa,lt_irrefl→Aca,zero_le→Aia,le_trans→Aka,zero_add→Aoa
namespace Go.Proofs
end Go.Proofs
namespace Go.Rk
open Go.Proofs
open Go Go.RowKit
theorem RowM.gt{Z X:List Nat}{n0:Nat}{w w':Aa}{l:List Ty}{v:Da}(h:RowM Z w l v)(g:GT (mutC X) n0 w w')(hz:∀ j∈Z,j∈X):RowM Z w' l v:=h.same fun b hb hlt ⟨cs,fr,hh⟩=>g.block b hlt (.inr fun ⟨cs',e',fr',h1,h2⟩=>by
 unfold mutC at h2;rw [Wng (hz b hb)] at h2;simp at h2)
theorem RowM.keept{Z:List Nat}{w w':Aa}{l:List Ty}{v:Da}{j:Nat}{e:TypeId}{xs:List Da}(h:RowM Z w l v)(hg:w.grownBy w' (some j))(hB:Blk w j e xs)(he:Nat.beq e 24=false):RowM Z w' l v:=h.same fun b hb hlt ⟨cs,fr,hh⟩=>hg.block b hlt fun q=>by
 injection q with q;subst q;unfold Blk at hB;rw [hB] at hh;injection hh with hh;injection hh with _ hh;subst hh;simp at he
theorem Vtd{Z:List Nat}{w:Aa}{l:List Ty}{p:Option Addr}{m c:Nat}(h:RowM Z w l (.slice p m c)){i:Nat}(hi:i<l.length):m=l.length∧p=some ⟨pb p,po p,none⟩∧RowAt w (pb p) (po p+i*2) (tyCells (l.getD i ty0)):=by
 obtain ⟨p',c',hv,h⟩:=h;injection hv with e1 e0 e2;subst e1;obtain ⟨b,o,cs,fr,rfl,_,_,hR⟩:=h O;refine ⟨e0,rfl,?_⟩;rw [Ama,Aea hi];exact Jjb (f:=tyCells) (z:=2) Zwa hR hi
theorem RowM.len{Z:List Nat}{w:Aa}{l:List Ty}{p:Option Addr}{m c:Nat}(h:RowM Z w l (.slice p m c)):m=l.length:=by
 obtain ⟨p',c',hv,h⟩:=h;injection hv
theorem CalM.to{M:Nat}{F t:Nd}(H:CalM M F t){n0 b:Nat}{TB X:List Nat}{r0:List Ty}{S:CSt}{A:(Nd×List Ty×Ty)×CSt}(hA:A=(ckT F t).cal S){w:Aa}{v:Da}{N m0:Nat}(Y:List Nat)(h:PC F n0 b TB X (some r0) S w)(he:S.ee=0)(hc:CanV S)(hk:Kd w (fun k=>k<n0) t.kids v)(hb:Bd S N)(hn:N+count t≤M)(hY:∀ j∈Y,j<w.heap.size)(hm:m0≤w.heap.size) :
 RetP PP 161 #[.pointer (some ⟨b,0,none⟩),ndV t v] w (fun r w'=>(∃ p c pl ml cl,r = .tuple #[ndV A.1.1 (.slice p A.1.1.kids.length c),.slice pl ml cl,tyV A.1.2.2]∧m0≤w.heap.size∧KdX w.heap.size Y w' A.1.1.kids (.slice p A.1.1.kids.length c)∧∃ Z,(∀ j∈X,j∈Z)∧PC F n0 b TB Z (some r0) A.2 w'∧RowM Z w' A.1.2.1 (.slice pl ml cl))∧A.2.ee=0∧GT (mutC X) n0 w w') (Bad n0 b X (S.scope+1) A.2 w):=by
 subst hA
 exact (H h he hc hk hb hn).mono (fun r w' hr=>by
  obtain ⟨h0,⟨u,l,Z,e,⟨p,c,e2,k⟩,hX,hP,hR⟩,g⟩:=hr;subst e2;obtain ⟨pl,cl,rfl,_⟩:=id hR;exact ⟨⟨p,c,pl,_,cl,e,hm,KdN.x k hY,Z,hX,hP,hR⟩,h0,g⟩) fun _ _ h=>h
theorem Yof{F t:Nd}{ps:List Ty}{S:CSt}{i:Nat}(h:i+1<t.kids.length)(hp:i<ps.length):argA t (ckX F t) ps S (i+1)=((argA t (ckX F t) ps S i).1++[((ckT F (Zb t (i+1))).ex (argA t (ckX F t) ps S i).2).1],failU (Us (ps.getD i ty0) ((ckT F (Zb t (i+1))).ex (argA t (ckX F t) ps S i).2).1.ty) (Zb t (i+1)).pos 7 ((ckT F (Zb t (i+1))).ex (argA t (ckX F t) ps S i).2).2):=by
 rw [argA,Wl h,Wng hp,Bool.true_and,Ana]
theorem Ypf{F t:Nd}(hl:1≤t.kids.length)(HC:CalM 1000000 F (Zb t 0))(HE:∀ i,i<t.kids.length→CxM 1000000 F 113 (Zb t i) (ckT F (Zb t i)).ex)(HF:∀ i,Fx (ckT F (Zb t i)).ex):CxM 1000000 F 141 t (callR t (ckX F t)):=by
 intro n0 b TB X r0 S w v N h he hc hkw hb hcn;obtain ⟨p,c,rfl,hcap,_⟩:=id hkw;obtain ⟨bp,op,rfl⟩:∃ bp op,p=some ⟨bp,op,none⟩:=⟨_,_,(Yq hkw (i:=0) O).1⟩;have hk0:=hkw;have hlt:=h.lt;have htb:=h.tb;have hs:=h.scs;have htb2:∀ j∈TB,j<w.heap.size:=fun j hj=>htb.2 j (htb.1 j hj);have hln:=Wn t;have x0:ckX F t 0=ckT F (Zb t 0):=Wl O;obtain ⟨A,hA⟩:∃ A,A=(ckT F (Zb t 0)).cal S:=⟨_,rfl⟩;obtain ⟨q0,hq0⟩:∃ q,q=decide ((t.kids.length:Int)-1=(A.1.2.1.length:Nat)):=⟨_,rfl⟩
 have eR:callR t (ckX F t) S=(annT t (A.1.1::(argA t (ckX F t) A.1.2.1 (failU q0 t.pos 7 A.2) (t.kids.length-1)).1) A.1.2.2,(argA t (ckX F t) A.1.2.1 (failU q0 t.pos 7 A.2) (t.kids.length-1)).2):=by
  unfold callR;dsimp only;rw [x0,← hA,← hq0]
 have hs1:sC t 1=cN t 0:=by show 0+cN t 0=_;omega
 have hc0:cN t 0=count (Zb t 0):=Xra O;have hsl:=Vsa t 1;have hst0:Stp (sC t 1) S A.2:=by rw [hA];exact ((Uh F (Zb t 0)).cal S).mono O
 have hag:∀ i,Stp (sC t (i+1)) S (argA t (ckX F t) A.1.2.1 A.2 i).2:=fun i=>Yrd (Xzb F t) A.1.2.1 hst0 i;have hva:Vs S A.2:=by rw [hA];exact (Qxa F _).cal S hs
 have hvg:∀ i,CanV (argA t (ckX F t) A.1.2.1 A.2 i).2:=fun i=>(Jhd (Wab F t) A.1.2.1 hs hva i).can hc;have her:∀ i k,Er (argA t (ckX F t) A.1.2.1 A.2 i).2 (argA t (ckX F t) A.1.2.1 A.2 (i+k)).2:=Jpd (Xzb F t) A.1.2.1 A.2
 have e0r:Er (failU q0 t.pos 7 A.2) (callR t (ckX F t) S).2:=by
  rw [eR];have:=Jpd (Xzb F t) A.1.2.1 (failU q0 t.pos 7 A.2) 0 (t.kids.length-1);rwa [Aoa] at this
 have g:=GT.refl (mutC X) n0 w;refine Vi (m:=61) Tryz.func141 J J [(0,True,_),(1,True,_)] (Za J (Za J (Zr _))) ?_;refine BM fun b3 _ ga _ g E=>?_;have hp3:=h;have h:=Ui h;have hk0:=Ui hk0;refine AN fun b4 _ ga _ g E=>?_;have hp4:=h;have h:=Ui h;have hk0:=Ui hk0;refine AU ?_;refine CL (Jn t _ _ _) ?_;rintro _ _ ⟨rfl,ga⟩;refine RC fun g E=>?_;have h:=Uk h;have hk0:=Uk hk0;refine AN fun b5 _ ga _ g E=>?_;have hp5:=h;have h:=Ui h;have hk0:=Ui hk0;refine AS fun _ ga Ca g E=>?_;first|have h:=h.keep ga Ca O (.inl rfl)|have h:=h.keep ga Ca O (.inr ⟨by simp,fun hm=>by have:=htb2 _ hm;omega⟩)
 have hk0:=Ud hk0;refine AU ?_;obtain ⟨e0,p1,c1,hcell,hkid⟩:=Yq hk0 (i:=0) O;refine AU ?_;refine Y2 J Jra J J (CalM.to HC hA [b3,b4,b5] h he hc hkid hb O (E.ltm Ob) g.size) ((fun ch w' hz=>Bad.pass hz (((Er.refl _).failu _ _ _).trans e0r) (Aaa _) g)) ?_;rintro v19 w19 ⟨⟨p19,c19,pl,ml,cl,rfl,q19,k19,Z,hXZ,h,hM⟩,he1,g19⟩;refine ⟨nw1,?_⟩;have g:=gtw g g19 (by first|(intro j hj;simp [hj];done)|exact (fun j hj=>Afa _ (hXZ j hj)));replace E:=E.gtx g19;have hZlt:=h.tb.2;have hk0:=hk0.gt g19 (fun k h=>h);have hml:=hM.len;subst hml;refine AN fun b6 _ N6 _ g E=>?_;have hp6:=h;have k19:=k19.new N6;have h:=h.grow (N6.g);have hk0:=hk0.grow (N6.g);have hM:=hM.grow (N6.g);refine AN fun b8 _ N8 _ g E=>?_;have hp8:=h;have k19:=k19.new N8;have h:=h.grow (N8.g);have hk0:=hk0.grow (N8.g);have hM:=hM.grow (N8.g);have h:=hp8.addX N8;have h8:b8∉Z:=fun hm=>by have:=hZlt _ hm;have:=N6.at_;have:=N6.g.size;have:=N8.at_;omega
 refine AS fun _ ga Ca g E=>?_;first|have h:=h.keep ga Ca O (.inl rfl)|have h:=h.keep ga Ca O (.inr ⟨by simp,fun hm=>by have:=htb2 _ hm;omega⟩)
 have hk0:=Ud hk0;have hM:=(by first|exact hM.keept ga Ca rfl|exact hM.keep ga h8:RowM Z _ _ _);have k19:=k19.keep ga Oi;refine AS fun _ ga Ca g E=>?_;first|have h:=h.keep ga Ca O (.inl rfl)|have h:=h.keep ga Ca O (.inr ⟨by simp,fun hm=>by have:=htb2 _ hm;omega⟩)
 have hk0:=Ud hk0;have hM:=(by first|exact hM.keept ga Ca rfl|exact hM.keep ga h8:RowM Z _ _ _);have k19:=k19.keep ga Oi;refine AU ?_;refine Yc _ J Zc Zs (pqc J pq0) J J ?_;intro b24 w24 N24;have l24:=We N24 g.size;have hp24:=h;have k19:=k19.new N24;have B24:=N24.blk;have x24_3:=N24.ne E.g4;have x24_4:=N24.ne E.g3;have x24_5:=N24.ne E.g2;have x24_6:=N24.ne E.g1;have x24_8:=N24.ne E.g0;have g:=gtg g N24.g;replace E:=E.grow N24.g;have h:=h.grow (N24.g);have hk0:=hk0.grow (N24.g);have hM:=hM.grow (N24.g);have hO:OwnN [b3,b4,b5,b6,b8] w.heap.size _ [A.1.1] (.slice (some ⟨b24,0,none⟩) 1 1):=Vbc B24 l24 (k19.mono fun k hk _=>⟨⟨⟨by have:=hk.1.1;omega,by have:=hk.1.2;simp at this ⊢;omega⟩,hk.2⟩,by have:=hk.1.2;simp at this;omega⟩) ⟨⟨l24,by simp;omega⟩,Jl B24⟩;refine AS fun _ ga Ca g E=>?_;first|have h:=h.keep ga Ca O (.inl rfl)|have h:=h.keep ga Ca O (.inr ⟨by simp,fun hm=>by have:=htb2 _ hm;omega⟩)
 have hk0:=Ud hk0;have hM:=(by first|exact hM.keept ga Ca rfl|exact hM.keep ga h8:RowM Z _ _ _);have hO:=Ua hO;refine AU ?_;refine Y3 J Ye J J J (Vf _ _ _ _) ((fun ch w' hz=>Ul (h.sub (Y:=X) htb.1 (by intro j hj;simp [hXZ j hj])) he1 Od (by rw [show decide ((t.kids.length:Int)-1=(A.1.2.1.length:Nat))=q0 from hq0.symm];exact e0r) hz g (by rw [hst0.scope];exact Aaa _))) ?_;rintro _ _ ⟨rfl,hq,ga⟩;refine RC fun g E=>?_;have h:=Uk h;have hM:=Uk hM;have hO:=Uk hO;have hk0:=Uk hk0;have hq1:q0=true:=hq0.trans hq;have hql:(t.kids.length:Int)-1=(A.1.2.1.length:Nat):=Wrg hq;have eR:callR t (ckX F t) S=(annT t (A.1.1::(argA t (ckX F t) A.1.2.1 A.2 (t.kids.length-1)).1) A.1.2.2,(argA t (ckX F t) A.1.2.1 A.2 (t.kids.length-1)).2):=by rw [eR,hq1];rfl
 refine AU ?_;refine Zz J (fun _=>Zob Zc (Zd J) Xa (fun _=>O)) ?_;refine AU ?_;have hnd1:=E.1;refine Uy (fun (i:Nat) u1=>(i+1≤t.kids.length∧(argA t (ckX F t) A.1.2.1 A.2 i).2.ee=0∧PC F n0 b TB (b8::Z) r0 (argA t (ckX F t) A.1.2.1 A.2 i).2 u1∧RowM Z u1 A.1.2.1 (.slice pl A.1.2.1.length cl)∧Blk u1 b8 24 (tyCells A.1.2.2)∧∃ s,Blk u1 b5 26 (ndCells (clnT t) s)∧OwnN [b3,b4,b5,b6,b8] w.heap.size u1 (A.1.1::(argA t (ckX F t) A.1.2.1 A.2 i).1) s)∧GT (mutC X) n0 w u1) _ [(0,True,_),(4,True,_),(5,True,_),(7,True,_),(8,True,_),(38,True,_),(39,True,_)] (fun (i:Nat)=>[(40,True,.int .i64 i)]) (fun (i:Nat)=>t.kids.length-i) (0) ⟨⟨hl,he1,h,hM,E.g0,_,E.g2,hO.sub Oj⟩,g⟩ (Yb (blkE E.g4) (Yb (blkE E.g3) (Yb (blkE E.g1) (Yb (blkE E.g0) (Wd _))))) (Za J (Za J (Za J (Za J (Za J (Za J (Za J (Za J (Zr _))))))))) ?_;clear E;rintro i u1 ⟨hI1,gl1⟩ ⟨B3,B4,B6,B8,_⟩;replace B3:Blk _ _ _ _:=B3;replace B4:Blk _ _ _ _:=B4;replace B6:Blk _ _ _ _:=B6;replace B8:Blk _ _ _ _:=B8;have g:=gl1;obtain ⟨hi,hei,h,hM,B8,s,B5,hO⟩:=hI1;obtain ⟨sa,sc,rfl⟩:=hO.slice;have hk0:=hkw.gt gl1 (fun k h=>h);have hlen:=Vmd t (ckX F t) A.1.2.1 A.2 i;have E:=Vma (L:=[(b8,_,_),(b6,_,_),(b5,_,_),(b4,_,_),(b3,_,_)]) hnd1 ⟨B8,B6,B5,B4,B3,trivial⟩ rfl;refine IF (fun h1=>?_) fun h1=>?_
 ·replace h1:i+1<t.kids.length:=by simp only [Wpg] at h1;omega
  obtain ⟨e0,p1,c1,hcell,hkid⟩:=Yq hk0 (i:=i+1) h1;have hps:i<A.1.2.1.length:=by omega
  have hen:=Yof (F:=F) (S:=A.2) h1 hps;have hbd:=(hag i).bd _ hb;have hsc:=Vsa t (i+2);have hcN:=Xra h1;have hsc1:sC t (i+2)=sC t (i+1)+cN t (i+1):=rfl;have hOlt:=hO.lt;refine Yw (kq (Zj (Yx (Zj (Zl (Zv J (Zma Zc J J O J (Wm Zf J J (by
 have q:=hcell;rw [show po (some (⟨bp,op,none⟩:Addr))+(i+1)*9=op+9+i*9 by show op+(i+1)*9=_;omega] at q;show RowAt u1 bp ((if c=1 then op else op+1*9)+i*9) _
 rw [if_neg O];exact q) (Xc rfl Zs rfl ?_)))))))))
  intro b10 w10 N10
  have l10:=We N10 g.size
  have hp10:=h
  have hO:=hO.new N10
  have g:=gtg g N10.g
  have h:=h.grow (N10.g)
  have hM:=hM.grow (N10.g)
  have hkid:=hkid.grow (N10.g)
  replace E:=E.new N10
  refine AS fun _ ga Ca g E=>?_
  first|have h:=h.keep ga Ca O (.inl rfl)|have h:=h.keep ga Ca O (.inr ⟨by simp,fun hm=>by have:=htb2 _ hm;omega⟩)
  have hkid:=Ud hkid
  have hM:=(by first|exact hM.keept ga Ca rfl|exact hM.keep ga h8:RowM Z _ _ _)
  have hO:=Ua hO
  have hOlt:=hO.lt
  refine AU ?_
  refine Xh (gtC (b8::Z) n0) [3,0,3,0,3,3,3,0,1,1,2,3,2] [0,1,0,0,0,0,48,112,252,508,1023,2047,4095] mix KR [0,1,2,3,4,5,6,7,8,9,10,11,12] J ?_
  have g:=gtd g
  replace E:=E.dr
  have h:=h.grow (G.drew _)
  have hM:=hM.grow (G.drew _)
  have hkid:=hkid.grow (G.drew _)
  have hO:=hO.grow (G.drew _)
  refine Zx 0 J J (fun _=>Zi Zh (Zd J)) (Yi 1 J J (fun w1 hx=>Zq Zg (Zd J) (fun _=>(E.g3.gt hx J).at_ J)) (Zx 2 J J (fun _=>Zw (Zd J)) (Yi 3 J J (fun w1 hx=>Zo Zf (Zd J) J (fun _=>(E.g0.gt hx J).row)) (Zx 4 J J (fun _=>Zw (Zd J)) (Zx 5 J J (fun _=>Zw (Zd J)) (Zx 6 J J (fun _=>Yv Wf (Zd J) (Zd J) (fun _=>O) (fun _=>(Vtd hM hps).2.1)) (Yi 7 J J (fun w1 hx=>Zo Zm (Zd J) J (fun _=>(Vtd (hM.gt hx (fun j hj=>Afa _ hj)) hps).2.2)) (Zt 8 J J ?_))))))))
  refine Zn (L':=[9,10,11,12]) [3,0,3,0,3,3,3,0,2,1,2,3,2] J J J ?_
  refine Y3 J Qa J J J (Ygb (HE (i+1) h1) (HF (i+1)) (A.1.2.1.getD i ty0) [b3,b4,b5,b6,b8,b10] h hei (hvg i) hkid hbd O (E.ltm Ob) g.size) ((fun ch w' hz=>Bad.pass hz (by rw [eR];have:=her (i+1) (t.kids.length-1-(i+1));rw [show i+1+(t.kids.length-1-(i+1))=t.kids.length-1 by omega,hen] at this;exact this) (by rw [(hag i).scope];exact Aaa _) g (fun j hj=>Afa _ (hXZ j hj)))) ?_
  rintro v53 w53 ⟨⟨p53,c53,rfl,q53,k53⟩,he53,eW,h,g53⟩
  refine ⟨nw1,?_⟩
  have g:=gtw g g53 (by first|(intro j hj;simp [hj];done)|exact (fun j hj=>Afa _ (hXZ j hj)))
  replace E:=E.gtx g53
  have hO:=hO.gt g53 rfl
  have hM:=hM.gt g53 (fun j hj=>Afa _ hj)
  rw [eW] at hen he53
  have he53:(argA t (ckX F t) A.1.2.1 A.2 (i+1)).2.ee=0:=by rw [hen];exact he53
  refine Zy (g53) ?_
  refine Zt 9 J J ?_
  refine Zn (L':=[10,11,12]) [3,0,3,0,3,3,3,0,2,1,2,3,2] J J J ?_
  refine CN fun _ _ N54 _ g E=>?_
  have hp54:=h
  have k53:=k53.new N54
  have hO:=hO.new N54
  have h:=h.grow (N54.g)
  have hM:=hM.grow (N54.g)
  refine Zy (GT.of_g (N54.g)) ?_
  refine Zt 10 J J ?_
  refine Xb (L':=[11,12]) [3,0,3,0,3,3,3,0,2,1,2,3,2] J J J J ?_
  have hO:=hO.sub (Y:=[b3,b4,b5,b6,b8]) Oj
  have hOo:=hO
  refine Wca J Zc Zs J (Zd J) hO (Zd J) J E.g0.row (Vt k53 q53 Oj (fun j hj=>.inr (hOlt j hj))) (by simp;omega) (by have:=g.size;omega) ⟨by have:=g.size;omega,by have q3:=E.g6.lt;have q4:=E.g5.lt;have q5:=E.g4.lt;have q6:=E.g3.lt;have q8:=E.g2.lt;simp;omega⟩ ?_
  intro a55 c55 w55 hO hg55
  replace E:=E.sel [false,false,true,true,true,true,true]
  replace E:=E.keepX hg55 hOo.ne Ob
  have g:=Ve g hg55 (fun k hk=>hOo.ge k hk)
  have h:=h.keepO hg55 hOo O
  have hM:=hM.same (fun b hb hlt ⟨cs,fr,hh⟩=>hg55.block b hlt (fun e=>by obtain ⟨cs2,fr2,h2⟩:=hOo.nd b e.symm;rw [hh] at h2;injection h2 with h2;injection h2 with _ h2;exact absurd h2 Od))
  refine Xx ?_
  refine Zx 11 J J (fun _=>Zi Zh (Zd J)) (Zt 12 J J ?_)
  refine Xb (L':=[]) [3,0,3,0,3,3,3,0,2,1,2,3,2] J J J J ?_
  refine AS fun _ ga Ca g E=>?_
  first|have h:=h.keep ga Ca O (.inl rfl)|have h:=h.keep ga Ca O (.inr ⟨by simp,fun hm=>by have:=htb2 _ hm;omega⟩)
  have hM:=(by first|exact hM.keept ga Ca rfl|exact hM.keep ga h8:RowM Z _ _ _)
  have hO:=Ua hO
  refine Xx ?_
  refine TK [0,4,5,7,8,38,39,40] ?_
  refine AU ?_
  refine SK [40,0,4,5,7,8,38,39] ?_
  refine Ze (fun a ha=>?_)
  exact ⟨i+1,ha,⟨⟨h1,he53,by rw [hen];exact h,hM,E.g0,_,E.g2,by rw [hen];exact hO.sub Oj⟩,g⟩,(Yb (blkE E.g4) (Yb (blkE E.g3) (Yb (blkE E.g1) (Yb (blkE E.g0) (Wd _))))),O⟩
 replace h1:i=t.kids.length-1:=by simp only [Wqg] at h1;omega
 subst h1;refine AU ?_;refine Xn J Xv (Zd J) (Zd J) J J E.g2 J J ?_;intro wS7 hgS7 _ BS;have C5:=E.g2;replace E:=E.s2 hgS7 BS;have g:=Yd g hgS7 O;first|have h:=h.keep hgS7 C5 O (.inl rfl)|have h:=h.keep hgS7 C5 O (.inr ⟨by simp,fun hm=>by have:=htb2 _ hm;omega⟩)
 have hM:=(by first|exact hM.keept hgS7 C5 rfl|exact hM.keep hgS7 h8:RowM Z _ _ _);have hO:=hO.keep hgS7 Os;refine AS fun _ ga Ca g E=>?_;first|have h:=h.keep ga Ca O (.inl rfl)|have h:=h.keep ga Ca O (.inr ⟨by simp,fun hm=>by have:=htb2 _ hm;omega⟩)
 have hM:=(by first|exact hM.keept ga Ca rfl|exact hM.keep ga h8:RowM Z _ _ _);have hO:=Ua hO;refine RTN ?_;rw [eR];exact ⟨hei,Xp (t:=annT t _ _) rfl (hO.sub (Y:=[b3,b4,b5,b6,b8]) Oj).kd,h.sub htb.1 (fun j hj=>Afa _ (hXZ j hj)),g⟩
theorem Yqf(F t:Nd)(S:CSt):(ckT F t).blk S=(((ckT F t).sts (openS S)).1,shutS ((ckT F t).sts (openS S)).2):=by rw [Zha];rfl
theorem Yrf{S:CSt}{N:Nat}(hb:Bd S N):Bd (openS S) (N+1) :=
 ⟨by have:=hb.vl;show S.vars.length≤_;omega,by have:=hb.nl;show S.next.length≤_;omega,fun k hk=>by have:=hb.nx k hk;omega,hb.lv,by have:=hb.sc;show S.scope+1≤_;omega,fun v hv=>by have:=hb.vs v hv;omega⟩
theorem KdX.gtc{lo n0:Nat}{X Y:List Nat}{w w':Aa}{ks:List Nd}{v:Da}(h:KdX lo Y w ks v)(g:GT (mutC X) n0 w w'):KdX lo Y w' ks v:=Wp h (fun k hk _=>⟨hk.1,hk.2.gt g rfl⟩) fun k hk hlt=>g.block k hlt (.inr (hk.2.ntyr rfl))
section
variable {F:Nd} {n0 b:Nat} {TB X:List Nat} {r0:List Ty} {S T:CSt} {fv:Da} {ms mg mn mf:Nat} {pv:Nat→Da} {sv cv rv cv' rv':Da} {vs:List Da} {sc:List (List Vr)} {w w' w1 w2 w3 w4 w5:Aa}
theorem PK.oth{q0 q1:Option (List Ty)}(h:PK F n0 b TB X q0 S fv ms mg mn mf pv sv cv rv vs sc w){S':CSt}(G:GT (mutC X) n0 w w')(hB:Blk w' b 59 (pcCells F fv ms mg mn mf sv cv' rv'))(so:w'.ownsRow n0 82 1 sv vs.length vs)(sr:ScR 84 n0 w' vs sc)
 (co:w'.ownsRow n0 3 1 cv' (S'.level+1) ((S'.next.take (S'.level+1)).map fun (k:Nat)=>Value.int .i64 (k:Int))) (ro:w'.ownsRow n0 24 2 rv' (rsT q1 S'.result).length ((rsT q1 S'.result).flatMap tyCells)) (rl:∀ l,q1=some l→l.length=S'.level)
 (hc:∀ k,cv'.ownBlock=some k→cv.ownBlock=some k∨w.heap.size≤k) (hr:∀ k,rv'.ownBlock=some k→rv.ownBlock=some k∨w.heap.size≤k) (h1:S'.vars=S.vars) (h2:S'.scope=S.scope):PK F n0 b TB X q1 S' fv ms mg mn mf pv sv cv' rv' vs sc w':=by
 obtain ⟨t1,t2,t3,t4⟩:=h.tabs G;refine ⟨hB,h.hb,t1,h.hF,t2,t3,so,sr,h.fl.trans h1.symm,h.sl.trans (by rw [h2]),h.ss,co,ro,rl,h.tx,t4,h.bx,h.sx,h.vx,fun k hk=>?_,fun k hk=>?_,h.sz⟩;rcases hc k hk with q|q;exact h.cx k q;intro hm;have:=h.xl k hm;omega;rcases hr k hk with q|q;exact h.rx k q;intro hm;have:=h.xl k hm;omega
theorem ScR.keepb(h:ScR 84 n0 w vs sc){e:TypeId}{l:List Da}(hg:w.grownBy w' (some b))(hB:Blk w b e l)(he:Nat.beq e 84=false):ScR 84 n0 w' vs sc :=
 h.keep hg fun k hk=>by
 injection hk with hk;subst hk;exact Wdb (M:=fun x _=>Nat.beq x 84) hB (by funext _;exact he)
theorem PK.psh(h:PK F n0 b TB X (some r0) S fv ms mg mn mf pv sv cv rv vs sc w)(hl:Ln S)(hg1:w.grownBy w1 cv.ownBlock)(co:w1.ownsRow n0 3 1 cv' (S.level+1+1) (((S.next.take (S.level+1)).map fun (k:Nat)=>Value.int .i64 (k:Int))++[.int .i64 0]))(hc:∀ k,cv'.ownBlock=some k→cv.ownBlock=some k∨w.heap.size≤k)
 (hg2:w1.grownBy w2 (some b)) (hB2:Blk w2 b 59 (pcCells F fv ms mg mn mf sv cv' rv)) (g3:Go.Rk.G w2 w3) (hg4:w3.grownBy w4 rv.ownBlock) (ro:w4.ownsRow n0 24 2 rv' ((r0++[S.result]).length+1) ((r0++[S.result]).flatMap tyCells++tyCells ty0)) (hr:∀ k,rv'.ownBlock=some k→rv.ownBlock=some k∨w3.heap.size≤k)
 (hg5:w4.grownBy w5 (some b)) (hB5:Blk w5 b 59 (pcCells F fv ms mg mn mf sv cv' rv')):PK F n0 b TB X (some (r0++[S.result])) (litS S) fv ms mg mn mf pv sv cv' rv' vs sc w5:=by
 have B1:Blk w1 b 59 _:=h.B.keep hg1 (fun e=>Wb h.co h.B rfl e.symm);have ro3:w3.ownsRow n0 24 2 rv _ _:=Xw (Ym (Ym h.ro hg1 (Yja h.ro h.co rfl)) hg2 (.inr (Wb (Ym h.ro hg1 (Yja h.ro h.co rfl)) B1 rfl))) g3;have B3:=hB2.grow g3;have B4:Blk w4 b 59 _:=B3.keep hg4 (fun e=>Wb ro3 B3 rfl e.symm);have G:GT (mutC X) n0 w w5:=(((Job h.co rfl h.cx hg1).trans (Vta B1 rfl h.hb h.bx hg2)).trans (GT.of_g g3)).trans ((Job ro3 rfl h.rx hg4).trans (Vta B4 rfl h.hb h.bx hg5));have so1:=Ym h.so hg1 (Yja h.so h.co rfl);have so3:=Xw (Ym so1 hg2 (.inr (Wb so1 B1 rfl))) g3;have so4:=Ym so3 hg4 (Yja so3 ro3 rfl);have so5:=Ym so4 hg5 (.inr (Wb so4 B4 rfl));have sr1:=h.sr.keep hg1 (Jpb h.co rfl);have sr3:=(sr1.keepb hg2 B1 rfl).grow g3;have sr5:=(sr3.keep hg4 (Jpb ro3 rfl)).keepb hg5 B4 rfl;have co3:=Xw (Ym co hg2 (.inr (Wb co B1 rfl))) g3;have co4:=Ym co3 hg4 (Yja co3 ro3 rfl);have co5:=Ym co4 hg5 (.inr (Wb co4 B4 rfl));have ro5:=Ym ro hg5 (.inr (Wb ro B4 rfl));have hs3:w.heap.size≤w3.heap.size:=Aka (Aka hg1.size hg2.size) g3.size;refine h.oth G hB5 so5 sr5 ?_ ?_ ?_ hc (fun k hk=>(hr k hk).imp id fun q=>Aka hs3 q) J rfl
 have e:((litS S).next.take ((litS S).level+1)).map (fun (k:Nat)=>Value.int .i64 (k:Int))=((S.next.take (S.level+1)).map fun (k:Nat)=>Value.int .i64 (k:Int))++[.int .i64 0]:=by
  show ((S.next.take (S.level+1)++[0]).take (S.level+1+1)).map _=_;unfold Ln at hl;rw [Ata (by rw [Ada,List.length_take];simp only [List.length_cons,List.length_nil];omega),List.map_append];rfl
 rw [e];exact co5;have e1:(r0++[S.result]++[(litS S).result]).length=(r0++[S.result]).length+1:=by rw [Ada];rfl
 have e2:(r0++[S.result]++[(litS S).result]).flatMap tyCells=(r0++[S.result]).flatMap tyCells++tyCells ty0:=by rw [Apa];rfl
 have ro6:=ro5;rw [← e1,← e2] at ro6;exact ro6;intro l e;injection e with e;subst e;rw [Ada,h.rl _ rfl];rfl
theorem PK.pop{y:Ty}{ca ra:Option Addr}{cc rc cm rm:Nat}(h:PK F n0 b TB X (some (r0++[y])) T fv ms mg mn mf pv sv (.slice ca cm cc) (.slice ra rm rc) vs sc w)(hg1:w.grownBy w1 (some b))(hB1:Blk w1 b 59 (pcCells F fv ms mg mn mf sv (.slice ca (cm-1) cc) (.slice ra rm rc)))(g2:Go.Rk.G w1 w2)
 (hg3:w2.grownBy w3 (some b)) (hB3:Blk w3 b 59 (pcCells F fv ms mg mn mf sv (.slice ca (cm-1) cc) (.slice ra (rm-1) rc))):PK F n0 b TB X (some r0) { T with level:=T.level-1,result:=y } fv ms mg mn mf pv sv (.slice ca (cm-1) cc) (.slice ra (rm-1) rc) vs sc w3:=by
 have B2:=hB1.grow g2;have hrl:=h.rl _ rfl;rw [Ada,Aga] at hrl;have G:GT (mutC X) n0 w w3:=((Vta h.B rfl h.hb h.bx hg1).trans (GT.of_g g2)).trans (Vta B2 rfl h.hb h.bx hg3)
 have k3:∀ {e:TypeId} {z m:Nat} {v:Da} {xs:List Da},w.ownsRow n0 e z v m xs→Nat.beq e 59=false→w3.ownsRow n0 e z v m xs:=fun ho he=>by
  have h2:=Xw (Ym ho hg1 (.inr (Wb ho h.B he))) g2;exact Ym h2 hg3 (.inr (Wb h2 B2 he))
 have hcm:cm=T.level+1:=by
  obtain ⟨a,c,e,_⟩:=Zpa h.co;injection e
 have hrm:rm=T.level+1:=by
  obtain ⟨a,c,e,_⟩:=Zpa h.ro;injection e with _ e _;rw [e];show (r0++[y]++[T.result]).length=_;rw [Ada,Ada,Aga,Aga,hrl]
 refine h.oth (S':={ T with level:=T.level-1,result:=y }) G hB3 (k3 h.so J) (((h.sr.keepb hg1 h.B J).grow g2).keepb hg3 B2 J) ?_ ?_ (fun l e=>by injection e with e;subst e;show r0.length=T.level-1;omega) (fun k hk=>.inl (by cases ca <;> exact hk)) (fun k hk=>.inl (by cases ra <;> exact hk)) J rfl
 have q:=h.co;rw [show T.level+1=cm from hcm.symm] at q;have c:=Xad (k3 q rfl) (j:=cm-1) (Nat.sub_le _ _);show w3.ownsRow n0 3 1 _ (T.level-1+1) _;rw [show T.level-1+1=cm-1 by omega];rw [Nat.mul_one,← List.map_take,List.take_take,show min (cm-1) cm=cm-1 by omega] at c;exact c;have hl:(r0++[y]++[T.result]).length=rm:=by rw [Ada,Ada,Aga,Aga,hrl,hrm]
 have q:w.ownsRow n0 24 2 _ (r0++[y]++[T.result]).length ((r0++[y]++[T.result]).flatMap tyCells):=h.ro;rw [hl] at q;have c:=Xad (k3 q rfl) (j:=rm-1) (Nat.sub_le _ _)
 have e:((r0++[y]++[T.result]).flatMap tyCells).take ((rm-1)*2)=(r0++[y]).flatMap tyCells:=by
  rw [Apa,List.take_append_of_le_length,Ata];rw [Xtb Zwa,Ada,Aga];omega;rw [Xtb Zwa,Ada,Aga];omega
 rw [e] at c;show w3.ownsRow n0 24 2 _ (r0++[y]).length _;rw [Ada,Aga,show r0.length+1=rm-1 by omega];exact c
end
theorem Xfd{F t:Nd}(HS:CxM 1000001 F 57 t (ckT F t).sts){n0 b:Nat}{TB X:List Nat}{r0:List Ty}{S:CSt}{w:Aa}{v:Da}{N:Nat}(h:PC F n0 b TB X (some r0) S w)(he:S.ee=0)(hc:CanV S)(hk0:Kd w (fun k=>k<n0) t.kids v)(hb:Bd S N)(hn:N+count t+1≤1000000) :
 RetP PP 137 #[.pointer (some ⟨b,0,none⟩),ndV t v,tyV ty0] w (fun r w'=>((ckT F t).blk (litS S)).2.ee=0∧RetN ((ckT F t).blk (litS S)).1 w.heap.size r w'∧PC F n0 b TB X (some r0) { ((ckT F t).blk (litS S)).2 with level:=((ckT F t).blk (litS S)).2.level-1,result:=S.result } w'∧GT (mutC X) n0 w w') (Bad n0 b X (S.scope+1) ((ckT F t).blk (litS S)).2 w):=by
 obtain ⟨p,c,rfl,_⟩:=id hk0;have hlt:=h.lt;have htb:=h.tb;have htb2:∀ j∈TB,j<w.heap.size:=fun j hj=>htb.2 j (htb.1 j hj);have hlv:=hb.lv;have hnl:=hb.nl;have hbl:=Yrf (Zgf hb);obtain ⟨V,hV⟩:∃ V,V=(ckT F t).sts (openS (litS S)):=⟨_,rfl⟩;have eU:(ckT F t).blk (litS S)=(V.1,shutS V.2):=by rw [Yqf,← hV]
 have hst:Stp (count t) (openS (litS S)) V.2:=by rw [hV];exact (Uh F t).sts _
 have hvs:V.2.scope=S.scope+1:=hst.scope;have hscN:=hb.sc;rw [eU];obtain ⟨fv,ms,mg,mn,mf,pv,sv,cv,rv,vs,sc,h⟩:=h;have hrl:=h.rl _ rfl;have hnn:=h.L.hn;have g:=GT.refl (mutC X) n0 w;refine Vi (m:=63) Tryz.func137 J J [(0,True,_),(1,True,_),(2,True,_)] (Za J (Za J (Za J (Zr _)))) ?_;refine BM fun b4 _ ga _ g E=>?_;have hp4:=h;have h:=Ui h;have hk0:=Ui hk0;refine BN fun b5 _ N5 _ g E=>?_;have hp5:=h;have h:=h.grow (N5.g);have hk0:=hk0.grow (N5.g);have h:=hp5.addX N5;refine AN fun b6 _ ga _ g E=>?_;have hp6:=h;have h:=Ui h;have hk0:=Ui hk0;refine AU ?_;refine Yc _ J Zca Zjc (pqc J pq0) J J ?_;intro b13 w13 N13;have l13:=We N13 g.size;have hp13:=h;have B13:=N13.blk;have g:=gtg g N13.g;replace E:=E.grow N13.g;have h:=h.grow (N13.g);have hk0:=hk0.grow (N13.g);refine Um J Zca Zjc J Od (Zd J) h.co (Zd J) J N13.blk.row J (by simp only [maxLen];omega) O (by have:=g.size;omega) ?_;intro a14 c14 w14 co hg14 hat14;have Bc:Blk w14 b 59 _:=h.B.keep hg14 (fun e=>Wb h.co h.B rfl e.symm);have B14:=Bc;have co14:=co;have ro:w14.ownsRow n0 24 2 rv (r0++[S.result]).length ((r0++[S.result]).flatMap tyCells):=Ym h.ro hg14 (Yja h.ro h.co rfl);have h14:=h;have g:=gtw g (Job h.co rfl h.cx hg14);replace E:=E.keep hg14 (Aba.2 ⟨fun e=>Wb h.co E.g0 rfl e.symm,Aba.2 ⟨(fun e=>h.cx b5 e.symm Os),Aba.2 ⟨fun e=>Wb h.co E.g2 rfl e.symm,Aha _⟩⟩⟩);clear h;refine AU ?_;refine Xr J Wrb (Zd J) (Zd J) J Bc J J ?_;intro w16 hg16 hz16 B16;have co:=Ym co hg16 (.inr (Wb co Bc rfl));have ro:=Ym ro hg16 (.inr (Wb ro Bc rfl));have g:=gtw g (Vta Bc rfl h14.hb h14.bx hg16);replace E:=E.keepT hg16 Bc rfl
 have Bc:=B16;have hk0:=hk0.keep hg14 (fun k hk _ e=>by have:=(h14.co.lt k e.symm).1;omega);have hk0:=hk0.keep hg16 (fun k hk _ e=>by injection e with e;omega);have g3:=G.refl w16;refine AU ?_;refine Xs [3,3,3,3,0,0,1,2,3,3,2] [true,true,true,true,true,true,true,true,true,true,true] [0,0,2,6,14,0,32,126,255,511,1023] mix KR ?_;have g:=gtd g;replace E:=E.dr;have h:=h.grow (G.drew _);have hk0:=hk0.grow (G.drew _);have co:=Xw co (G.drew _);have ro:=Xw ro (G.drew _);have Bc:=Bc.grow (G.drew _);have g3:=g3.trans (G.drew _);refine Zv J (Zv J (Vy J (Xg Vx J (Xl Vw J (Bc.at_ J) (Wm Zm J J E.g1.row (Yc _ J Wf Xk (pqc J pq0) J J ?_))))));intro b23 w23 N23;have l23:=We N23 g.size;have hp23:=h;have B23:=N23.blk;have g:=gtg g N23.g;replace E:=E.grow N23.g;have hk0:=hk0.grow (N23.g);have co:=Xw co (N23.g);have ro:=Xw ro (N23.g);have Bc:=Bc.grow (N23.g);have g3:=g3.trans (N23.g);refine Um J Wf Xk J Od (Zd J) ro (Zd J) J N23.blk.row J (by simp only [maxLen];simp;omega) (by simp;omega) (by have:=g.size;omega) ?_;intro a24 c24 w24 ro24 hg24 hat24;have B24:Blk w24 b 59 _:=Bc.keep hg24 (fun e=>Wb ro Bc rfl e.symm);have g:=gtw g (Job ro rfl h14.rx hg24);replace E:=E.keep hg24 (Aba.2 ⟨fun e=>Wb ro E.g0 rfl e.symm,Aba.2 ⟨(fun e=>h14.rx b5 e.symm Os),Aba.2 ⟨fun e=>Wb ro E.g2 rfl e.symm,Aha _⟩⟩⟩);have hk0:=hk0.keep hg24 (fun k hk _ e=>by have:=(ro.lt k e.symm).1;omega);refine AU ?_;refine Xr J Uw (Zd J) (Zd J) J B24 J J ?_;intro w26 hg26 hz26 B26;replace E:=E.keepT hg26 B24 rfl;have g:=gtw g (Vta B24 rfl h14.hb h14.bx hg26)
 have hk0:=hk0.keep hg26 (fun k hk _ e=>by injection e with e;omega);have h:=(h14.psh hb.lv hg14 co14 (fun k hk=>hat14.imp (fun q=>q.symm.trans hk) fun q=>by rw [hk] at q;injection q with q;omega) hg16 B16 g3 hg24 ro24 (fun k hk=>hat24.imp (fun q=>q.symm.trans hk) fun q=>by rw [hk] at q;injection q with q;omega) hg26 B26).pc;refine AU ?_;refine CL (Vxc h (by show S.scope≤_;omega)) ?_;rintro v28 w28 ⟨rfl,h,g28⟩;refine ⟨nw1,?_⟩;have g:=gtw g g28;replace E:=E.gtx g28;have hk0:=hk0.gt g28 (fun k h=>h);refine AU ?_;refine Y2 J Vq J J (CxM.to HS [b4,b5,b6] h he hc hk0 hbl O (E.ltm Ob) g.size) ((fun ch w' hz=>Bad.pass hz (by rw [← hV];exact Er.refl _) (by show S.scope+1≤S.scope+1+1;omega) g)) ?_;rintro v31 w31 ⟨⟨p31,c31,rfl,q31,k31⟩,he31,h,g31⟩;refine ⟨nw1,?_⟩;have g:=gtw g g31;replace E:=E.gtx g31;rw [← hV] at k31 he31 h;refine AN fun _ _ ga _ g E=>?_;have hp7:=h;have k31:=Uj k31;have h:=Ui h;refine AS fun _ ga Ca g E=>?_;have h:=h.keep ga Ca O (.inl rfl);have k31:=k31.keep ga Oi;refine AU ?_;refine CL (Yef h (by rw [hvs];omega) (by rw [hvs];omega)) ?_;rintro v33 w33 ⟨rfl,h,g33⟩;refine ⟨nw1,?_⟩;have g:=gtw g g33;replace E:=E.gtx g33;have k31:=k31.gtc g33;obtain ⟨fw,ns,ng,nn,nf,qv,sw,cw,rw,vt,sd,h⟩:=h;obtain ⟨ca,cc,rfl,_⟩:=Zpa h.co;obtain ⟨ra,rc,rfl,_⟩:=Zpa h.ro
 have hrl2:(rsT (some (r0++[S.result])) (shutS V.2).result).length=r0.length+2:=by
  show (r0++[S.result]++[(shutS V.2).result]).length=_;rw [Ada,Ada];rfl
 obtain ⟨rm,hrm⟩:∃ m,m=(rsT (some (r0++[S.result])) (shutS V.2).result).length:=⟨_,rfl⟩;obtain ⟨cm,hcm⟩:∃ m,m=(shutS V.2).level+1:=⟨_,rfl⟩;rw [← hrm,← hcm] at h;have hcl:cm=S.level+2:=by rw [hcm];show V.2.level+1=_;rw [hst.level];rfl
 refine AU ?_;refine Xs [3,3,3,3,0,3,3,3,0,3,3,3,3,3,2] [true,true,true,true,true,true,true,true,true,true,true,true,true,true,true] [0,0,2,6,14,0,32,96,224,480,992,2046,4095,8191,16383] mix KR ?_;have g:=gtd g;replace E:=E.dr;have h:=h.grow (G.drew _);have co:=Xw co (G.drew _);have ro:=Xw ro (G.drew _);have Bc:=Bc.grow (G.drew _);have k31:=k31.grow (G.drew _);refine AU ?_;refine Zz J (fun _=>Qlb Zca (Zd J) (Zd J) (fun _=>O)) ?_;refine AU ?_;refine Xr J Wrb (Zd J) (Zd J) J h.B J J ?_;intro w47 hg47 hz47 B47;rw [show ((cm:Int)-1).toNat=cm-1 by omega] at B47;have g:=gtw g (Vta h.B rfl h.hb h.bx hg47);replace E:=E.keepT hg47 h.B rfl;have k31:=k31.keepb hg47 h.B rfl;have g2:=G.refl w47;have Bc:=B47;have h47:=h;clear h;refine AU ?_;refine Xs [3,3,3,3,0,3,3,3,0,3,3,3,3,3,2] [true,true,true,true,true,true,true,true,true,true,true,true,true,true,true] [0,0,2,6,14,0,32,96,224,480,992,2046,4095,8191,16383] mix KR ?_;have g:=gtd g;replace E:=E.dr;have h:=h.grow (G.drew _);have co:=Xw co (G.drew _);have ro:=Xw ro (G.drew _);have Bc:=Bc.grow (G.drew _);have g2:=g2.trans (G.drew _);have k31:=k31.grow (G.drew _);refine Zv J (Zv J (Vy J (Xg Vx J (Xl Vw J (Bc.at_ J) (Zv J (Vy J (Xg Vx J (Xl Vw J (Bc.at_ J) (Yha Wf J (Zz J (fun _=>Xca (Zd J) Xa (fun _=>O)) (Zz J (fun _=>Qlb Wf (Zd J) (Zd J) (fun _=>O)) (Vy J (Xg Vx J (Xr J Uw (Zd J) (Zd J) J Bc J J ?_))))))))))))));intro w61 hg61 hz61 B61;rw [show ((rm:Int)-1).toNat=rm-1 by omega] at B61;have g:=gtw g (Vta Bc rfl h47.hb h47.bx hg61);replace E:=E.keepT hg61 Bc rfl;have k31:=k31.keepb hg61 Bc rfl
 have h:=(h47.pop hg47 B47 g2 hg61 B61).pc;refine AS fun _ ga Ca g E=>?_;have h:=h.keep ga Ca O (.inl rfl);have k31:=k31.keep ga Oi;refine RTN ?_;subst hV;exact ⟨he31,Xp rfl (k31.kdN q31),h.sub htb.1 (by intro j hj;simp [hj]),g⟩
theorem Bad.shut{n0 b L:Nat}{X:List Nat}{T:CSt}{w w1:Aa}{ch:List Ba}(h:Bad n0 b X (L+1) T w ch w1)(hb:n0≤b)(hx:b∉X):RetB PP 142 #[.pointer (some ⟨b,0,none⟩)] w1 fun r w2=>Bad n0 b X L T w ch w2 :=
 (Yff h.2.2.1).mono fun r w2 hr=>by
 obtain ⟨_,_,_,_,_,_,_,_,_,_,_,hB,_⟩:=h.2.2.1;exact ⟨h.1,h.2.1,hr.2.1,h.2.2.2.trans (Vta hB rfl hb hx hr.2.2)⟩
theorem Wac{n n0 b L L':Nat}{X X':List Nat}{T U:CSt}{w w0 w1:Aa}{ch:List Ba}{fn:Func}{R:Da→Aa→Prop}{σ:List Ent}(h:Bad n0 b X' (L'+1) T w ch w1)(hE:Er T U)(hL:L≤L')(g:GT (mutC X) n0 w0 w)(hb:n0≤b)(hx:b∉X')(hX:∀ j∈X,j∈X') :
 ∀ a,Kn n σ a→ZD PP fn R (Bad n0 b X L U w0) ch [fnD 142 #[] #[.pointer (some ⟨b,0,none⟩)]] a w1:=by
 have hs:settle (.panicking ch) = .panicking ch:=by rw [h.1];rfl
 exact Vff Qn hs (h.shut hb hx) fun v w2 hv=>Zsg (hv.pass hE hL g hX)
theorem Vud{n0 b L L':Nat}{X X':List Nat}{T U:CSt}{w w0 w1:Aa}{ch:List Ba}{fn:Func}{R:Da→Aa→Prop}(h:Bad n0 b X' (L'+1) T w ch w1)(hE:Er T U)(hL:L≤L')(g:GT (mutC X) n0 w0 w)(hb:n0≤b)(hx:b∉X')(hX:∀ j∈X,j∈X') :
  ∀ a,ZD PP fn R (Bad n0 b X L U w0) ch [fnD 142 #[] #[.pointer (some ⟨b,0,none⟩)]] a w1:=fun a =>
 Wac (n:=a.tmps.size) (σ:=[]) h hE hL g hb hx hX { tmps:=a.tmps,defers:=[] } ⟨rfl,rfl,fun _ _ _ hl=>by cases hl⟩
theorem Ufc{P:Program}{n:Nat}{ds:List Deferred}{N T:DPost}{X:List (Nat×DPost)}{Z:List Ba→DPost}{σ:List Ent}{w:Aa}{id:Nat}{l:List Oper}(row:RelX)(cl:List Nat)(ms:List Nat)(hm:P.follows .mixedOrders=true)(hok:okT l cl ms=true)(L:List Nat)(hL:List.range l.length=L)
 (h:ST P (fun ch _ w=>∀ a',Z ch ds a' w) l cl ms row n (N ds) l.length L σ w.drew):SCD P none n ds (.region id l.toArray true) N X T Z σ w:=fun a ha=>by
 have h1:=h a ha;subst hL;have h2:=RT.wd (Z:=fun ch ds _ w=>∀ a',Z ch ds a' w) (N:=N) ds _ _ a w.drew ha.2.1 h1;have h3:RT P (fun ch=>onD (fun ds _ w=>∀ a',Z ch ds a' w)) l.toArray (clOf cl) (wtOf ms) row (onD N) l.toArray.size (List.range l.toArray.size) (wd ds a) w.drew:=by simpa using h2
 refine Uob (Z:=fun ch=>onD (fun ds _ w=>∀ a',Z ch ds a' w)) (fun ch a d v w _ hz=>?_) (Wnc hok) (fun ch a w h=>h _) hm h3;have hz:∀ a',Z ch (a.put d v).defers a' w:=hz;rw [Jv] at hz;exact hz
theorem Une{F t:Nd}(HS:CxM 1000001 F 57 t (ckT F t).sts):CxM 1000000 F 116 t (ckT F t).blk:=by
 intro n0 b TB X r0 S w v N h he hc hk0 hb hn;obtain ⟨p,c,rfl,_⟩:=id hk0;have hlt:=h.lt;have htb:=h.tb;have hbx:=h.nx;obtain ⟨V,hV⟩:∃ V,V=(ckT F t).sts (openS S):=⟨_,rfl⟩;have eU:(ckT F t).blk S=(V.1,shutS V.2):=by rw [Yqf,← hV]
 have hst:Stp (count t) (openS S) V.2:=by rw [hV];exact (Uh F t).sts _
 have hvs:V.2.scope=S.scope+1:=hst.scope;have hscN:=hb.sc;have hcp:=Yza t;have hbl:=Yrf hb;rw [eU];have g:=GT.refl (mutC X) n0 w;refine Xqb (m:=11) Tryz.func116 J J [(0,True,_),(1,True,_)] (Za J (Za J (Zr _))) ?_;refine Wg fun K1 hK1=>?_;refine Wc [1,1] ?_;refine Zda J (Zd J) J ?_;intro b3 w3 N3;have l3:=We N3 g.size;have g:=gtg g N3.g;have h:=h.grow (N3.g);have hk0:=hk0.grow (N3.g);have B3:=N3.blk;refine Xc J Zs J ?_;intro b4 w4 N4;have x4_3:=N4.ne B3;have l4:=We N4 g.size;have g:=gtg g N4.g;replace B3:=B3.grow (N4.g);have h:=h.grow (N4.g);have hk0:=hk0.grow (N4.g);have B4:=N4.blk;refine SK [0,3,4] ?_;refine Ze (hK1 _ _ _ ?_);refine Wg fun K2 hK2=>?_;refine Wc [3,2] ?_;refine Zz J (fun _=>Zw (Zd J)) ?_;refine Xm J (Zu Xqa Xy (Ya (Zd J) (Yl)) J) (Vxc h O) ?_;rintro v6 w6 ⟨rfl,h,g6⟩;refine ⟨nw1,?_⟩;have g:=gtw g g6;try replace B3:=B3.gt g6 rfl
 try replace B4:=B4.gt g6 rfl
 have hk0:=hk0.gt g6 (fun k h=>h);refine SK [0,3,4] ?_;refine Ze (hK2 _ _ _ ?_);refine Wg fun K3 hK3=>?_;refine Qha (k:=1) [3,2] J J J ?_;refine Zz J (fun _=>Zw (Zd J)) ?_;refine Ze (Ycd (Wvc Xy (Ya (Zd J) (Yl))) (hK3 _ _ _ ?_));refine DK [0,3,4] ?_;refine Wg fun K4 hK4=>?_;refine Wc [3,0,2,2] ?_;refine Zz J (fun _=>Zw (Zd J)) ?_;refine Uz J (Zo Zf (Zd J) J (fun _=>B3.row)) ?_;refine Zva J (Zu Vq Xy (Ya (Zd J) (Ya (Zd J) (Yl))) J) (CxM.to HS [b3,b4] h he hc hk0 hbl O (Aba.2 ⟨B3.lt,Aba.2 ⟨B4.lt,Aha _⟩⟩) g.size) ((fun ch w' hz=>Wac hz (by rw [← hV];exact Er.refl _) (Aaa _) g O hbx (fun j hj=>hj))) ?_;rintro v10 w10 ⟨⟨p10,c10,rfl,q10,k10⟩,he10,h,g10⟩;refine ⟨nw1,?_⟩;have g:=gtw g g10;try replace B3:=B3.gt g10 rfl
 try replace B4:=B4.gt g10 rfl
 rw [← hV] at k10 he10 h;refine Xq J Yj (Zd J) (Zd J) J J B4 J J ?_;intro wS1 hgS1 hzS1;have C4:=B4;clear B4;intro B4;replace B3:=Kp B3 hgS1;have g:=Yd g hgS1 O;have h:=h.keep hgS1 C4 O (.inl rfl);have k10:=k10.keep hgS1 Oi;refine SK [4] ?_;refine Ze (hK4 _ _ _ ?_);refine Jfb (?_);refine Ybd Qn (Vbb h (by rw [hvs];omega) (by rw [hvs];omega)) ?_;rintro v90 w90 ⟨rfl,h,g90⟩;have g:=gtw g g90;have B4:=B4.gt g90 rfl;have k10:=k10.gtc g90;refine Zrc (Wea J (Zra J Zf J (by first|exact B3.row|exact B4.row) (Ub)) ?_);subst hV;exact ⟨he10,Xp rfl (k10.kdN q10),h,g⟩
theorem Jo(t:Nd)(v:Da)(D:Nat→Prop)(w:Aa){m0:Nat}(Z:List Nat)(hk:Kd w D t.kids v)(hc:count t≤1000000)(hZ:∀ j∈Z,j<w.heap.size)(hm:m0≤w.heap.size):Ret PP 53 #[ndV t v] w fun r w'=>(∃ p c,r=ndV (plainT t) (.slice p (plainT t).kids.length c)∧m0≤w.heap.size∧KdX w.heap.size Z w' (plainT t).kids (.slice p (plainT t).kids.length c))∧G w w' :=
 (Uke t v D w hk hc).mono fun r w' hr=>by
 obtain ⟨⟨p,c,e,k⟩,g⟩:=hr;exact ⟨⟨p,c,e,hm,KdN.x k hZ⟩,g⟩
theorem Qla{t:Nd}(h:t.kids=[]):plainT t=clnT t:=by rw [Xba,h];rfl
def ChM(F t:Nd):Prop:=∀ (first:Bool) {n0 b:Nat} {TB X:List Nat} {r0:List Ty} {S:CSt} {w:Aa} {v:Da} {N:Nat},PC F n0 b TB X (some r0) S w→S.ee=0→CanV S→Kd w (fun k=>k<n0) t.kids v→Bd S N→N+count t≤1000000→
 RetP PP 115 #[.pointer (some ⟨b,0,none⟩),ndV t v,.bool (!first)] w (fun r w'=>((ckT F t).cas first S).2.ee=0∧RetN ((ckT F t).cas first S).1 w.heap.size r w'∧PC F n0 b TB X (some r0) ((ckT F t).cas first S).2 w'∧GT (mutC X) n0 w w') (Bad n0 b X (S.scope+1) ((ckT F t).cas first S).2 w)
theorem Zge{F t:Nd}(hl:t.kids.length=2)(h9:(Zb t 0).kind=9→(Zb t 0).kids=[])(KS:(Zb t 0).kind≠9→CxM 1000000 F 87 (Zb t 0) (ckT F (Zb t 0)).st)(KB:CxM 1000001 F 57 (Zb t 1) (ckT F (Zb t 1)).sts):ChM F t:=by
 intro first n0 b TB X r0 S w v N h he hc hkw hb hn;obtain ⟨p,c,rfl,_⟩:=id hkw;have hk0:=hkw;have hlt:=h.lt;have htb:=h.tb;have hbx:=h.nx;have hs:=h.scs;have hcp:=Yza t;have hscN:=hb.sc;have hln:=Wn t;have x0:ckX F t 0=ckT F (Zb t 0):=Wl O;have x1:ckX F t 1=ckT F (Zb t 1):=Wl O;have hc0:cN t 0=count (Zb t 0):=Xra O;have hc1:cN t 1=count (Zb t 1):=Xra O;have hsl:=Vsa t 2;have hs2:sC t 2=0+cN t 0+cN t 1:=rfl;have hbl:=Yrf hb;obtain ⟨A,hA⟩:∃ A,A=bif decide ((Zb t 0).kind=9) then (clnT (Zb t 0),failU first t.pos 6 (openS S)) else (ckT F (Zb t 0)).st (openS S):=⟨_,rfl⟩;obtain ⟨V,hV⟩:∃ V,V=(ckT F (Zb t 1)).sts A.2:=⟨_,rfl⟩
 have eU:(ckT F t).cas first S=(annT t [A.1,V.1] ty0,shutS V.2):=by
  rw [Zha];show casR t (ckX F t) first S=_;unfold casR;rw [x0,x1,← hA];dsimp only;rw [← hV]
 have hsA:Stp (cN t 0) (openS S) A.2:=by
  rw [hA];cases decide ((Zb t 0).kind=9);rw [hc0];exact (Uh F _).st _;exact ((Stp.refl _).failu first t.pos 6).mono (Aia _)
 have hsV:Stp (count (Zb t 1)) A.2 V.2:=by rw [hV];exact (Uh F _).sts _
 have hvs:V.2.scope=S.scope+1:=hsV.scope.trans hsA.scope;have hbA:=hsA.bd _ hbl
 have hcA:CanV A.2:=by
  rw [hA];cases decide ((Zb t 0).kind=9);exact (Voc F _).st _ (Yeb hs) hc;exact ((Vs.refl (openS S)).failu first t.pos 6).can hc
 have erA:Er A.2 ((ckT F t).cas first S).2:=by rw [eU];exact hsV.e
 have g:=GT.refl (mutC X) n0 w;refine Xqb (m:=46) Tryz.func115 J J [(0,True,_),(1,True,_),(2,True,_)] (Za J (Za J (Za J (Zr _)))) ?_;refine Wg fun K1 hK1=>?_;refine Wc [1,1] ?_;refine Zda J (Zd J) J ?_;intro b4 w4 N4;have l4:=We N4 g.size;have g:=gtg g N4.g;have h:=h.grow (N4.g);have hk0:=hk0.grow (N4.g);have B4:=N4.blk;refine Xc J Zs J ?_;intro b6 w6 N6;have x6_4:=N6.ne B4;have l6:=We N6 g.size;have g:=gtg g N6.g;replace B4:=B4.grow (N6.g);have h:=h.grow (N6.g);have hk0:=hk0.grow (N6.g);have B6:=N6.blk;refine SK [0,2,4,6] ?_;refine Ze (hK1 _ _ _ ?_);refine Wg fun K2 hK2=>?_;refine Wc [0,1,1,2] ?_;refine Uz J (Zo Zf (Zd J) J (fun _=>B4.row)) ?_;refine Xm J (Zu Jia Xy (Ya (Zd J) (Yl)) J) (Jn t _ _ _) ?_;rintro v10 w10 ⟨rfl,g10⟩;refine ⟨fun _=>g10,?_⟩;have g:=gtg g g10;replace B4:=B4.grow (g10);replace B6:=B6.grow (g10);have h:=h.grow (g10);have hk0:=hk0.grow (g10);refine Xc J Zs J ?_;intro b7 w7 N7;have x7_4:=N7.ne B4;have x7_6:=N7.ne B6;have l7:=We N7 g.size;have g:=gtg g N7.g;replace B4:=B4.grow (N7.g);replace B6:=B6.grow (N7.g);have h:=h.grow (N7.g);have hk0:=hk0.grow (N7.g);have B7:=N7.blk;refine Xq J Yj (Zd J) (Zd J) J J B7 J J ?_;intro wS1 hgS1 hzS1;have C7:=B7;clear B7;intro B7;replace B4:=Kp B4 hgS1;replace B6:=Kp B6 hgS1;have g:=Yd g hgS1 O;have h:=h.keep hgS1 C7 O (.inl rfl);have hk0:=hk0.keep hgS1 (fun k hk _ e=>by injection e with e;omega);refine SK [0,2,4,6,7] ?_;refine Ze (hK2 _ _ _ ?_);refine Wg fun K3 hK3=>?_;refine Wc [3,2] ?_;refine Zz J (fun _=>Zw (Zd J)) ?_;refine Xm J (Zu Xqa Xy (Ya (Zd J) (Yl)) J) (Vxc h O) ?_;rintro v12 w12 ⟨rfl,h,g12⟩;refine ⟨nw1,?_⟩;have g:=gtw g g12;try replace B4:=B4.gt g12 rfl
 try replace B6:=B6.gt g12 rfl
 try replace B7:=B7.gt g12 rfl
 have hk0:=hk0.gt g12 (fun k h=>h);refine SK [0,2,4,6,7] ?_;refine Ze (hK3 _ _ _ ?_);refine Wg fun K4 hK4=>?_;refine Qha (k:=1) [3,2] J J J ?_;refine Zz J (fun _=>Zw (Zd J)) ?_;refine Ze (Ycd (Wvc Xy (Ya (Zd J) (Yl))) (hK4 _ _ _ ?_));refine DK [0,2,4,6,7] ?_;refine Wg fun K5 hK5=>?_;refine Wc [3,0,3,0,1,1,2] ?_;refine Zz J (fun _=>Zi Zh (Zd J)) ?_;refine Uz J (Zq Zg (Zd J) (fun _=>B4.at_ J)) ?_;obtain ⟨hpe,p_16,c_16,hcell,hkid⟩:=Yq hk0 (i:=0) O;refine Zma Zc J J O hpe ?_;refine Uz J (Zo Zf (Zd J) J (fun _=>hcell)) ?_;refine Xm J (Zu Xgb Xy (Ya (Zd J) (Yl)) J) (Jo (Zb t 0) _ _ _ [b4,b6,b7] hkid O (Aba.2 ⟨B4.lt,Aba.2 ⟨B6.lt,Aba.2 ⟨B7.lt,Aha _⟩⟩⟩) g.size) ?_;rintro v18 w18 ⟨⟨p18,c18,rfl,q18,k18⟩,g18⟩;refine ⟨fun _=>g18,?_⟩;have g:=gtg g g18;replace B4:=B4.grow (g18);replace B6:=B6.grow (g18);replace B7:=B7.grow (g18);have h:=h.grow (g18);have hk0:=hk0.grow (g18);refine Xc J Zs J ?_;intro b8 w8 N8;have x8_4:=N8.ne B4;have x8_6:=N8.ne B6;have x8_7:=N8.ne B7;have l8:=We N8 g.size;have k18:=k18.new N8;have g:=gtg g N8.g;replace B4:=B4.grow (N8.g);replace B6:=B6.grow (N8.g);replace B7:=B7.grow (N8.g);have h:=h.grow (N8.g);have hk0:=hk0.grow (N8.g);have B8:=N8.blk;refine Xq J Yj (Zd J) (Zd J) J J B8 J J ?_;intro wS2 hgS2 hzS2;have C8:=B8;clear B8;intro B8;replace B4:=Kp B4 hgS2;replace B6:=Kp B6 hgS2;replace B7:=Kp B7 hgS2;have g:=Yd g hgS2 O;have h:=h.keep hgS2 C8 O (.inl rfl);have hk0:=hk0.keep hgS2 (fun k hk _ e=>by injection e with e;omega);have k18:=k18.keep hgS2 Oi;refine SK [0,2,4,6,7,8] ?_
 refine Ze (hK5 _ _ _ ?_);refine Wg fun K6 hK6=>?_;refine Wg fun K7 hK7=>?_;refine Wc [3,0,3,3,0,3] ?_;refine Zz J (fun _=>Zi Zh (Zd J)) ?_;refine Uz J (Zq Zg (Zd J) (fun _=>B4.at_ J)) ?_;obtain ⟨hpe,p_21,c_21,hcell,hkid⟩:=Yq hk0 (i:=0) O;refine Zma Zc J J O hpe ?_;refine Zz J (fun _=>Zi Xi (Zd J)) ?_;refine Uz J (Zq Yf (Zd J) (fun _=>hcell.one (i:=0) J)) ?_;refine Zz J (fun _=>Zoa (Zd J) Xa) ?_;refine SK [0,2,4,6,7,8,24] ?_;refine Ze (hK7 _ _ _ ?_);refine Xpb (Zd J) (fun h1=>?_) (fun h1=>?_);replace h1:(Zb t 0).kind=9:=Wrg h1;have eA:A=(clnT (Zb t 0),failU first t.pos 6 (openS S)):=by rw [hA,Wng h1];rfl
 rw [Qla (h9 h1)] at B8 k18;refine Wc [3,3,3,0,1] ?_;refine Zz J (fun _=>Zw (Zd J)) ?_;refine Zz J (fun _=>Yvb (Zd J)) ?_;refine Zz J (fun _=>Zi Xz (Zd J)) ?_;refine Uz J (Zq Yf (Zd J) (fun _=>B4.at_ J)) ?_;refine Zva J (Zu Ye Xy (Ya (Zd J) (Ya (Zd J) (Ya Xa (Yl)))) J) (Vf _ _ _ _) ((fun ch w' hz=>Wac (Ul h he Od (by rw [eA,Ana];exact Er.refl _) hz (GT.refl _ _ _) (Aaa _)) erA (Aaa _) g O hbx (fun j hj=>hj))) ?_;rintro v29 w29 ⟨rfl,hq,g29⟩;refine ⟨fun _=>g29,?_⟩;have g:=gtg g g29;replace B4:=B4.grow (g29);replace B6:=B6.grow (g29);replace B7:=B7.grow (g29);replace B8:=B8.grow (g29);have h:=h.grow (g29);have hk0:=hk0.grow (g29);have k18:=k18.grow (g29);rw [Ana] at hq;have eA2:A.2=openS S:=by rw [eA,hq];rfl
 have heA:A.2.ee=0:=by rw [eA2];exact he
 rw [← eA2] at h;refine SK [0,4,6,7,8] ?_;refine Ze (hK6 _ _ _ ?_);refine Wg fun K8 hK8=>?_;refine Ufc (gtC X n0) [0,3,3,0,3,0,1,1,3,2] [0,0,0,4,12,28,62,127,255,511] mix KR [0,1,2,3,4,5,6,7,8,9] J ?_;have g:=gtd g;replace B4:=B4.grow (G.drew _);replace B6:=B6.grow (G.drew _);replace B7:=B7.grow (G.drew _);replace B8:=B8.grow (G.drew _);have h:=h.grow (G.drew _);have hk0:=hk0.grow (G.drew _);have k18:=k18.grow (G.drew _);refine Qnb (L':=[1,2,3,4,5,6,7,8,9]) 0 J J J (fun w1 hx=>Zo Zf (Zd J) J (fun _=>(B8.gt hx J).row)) ?_;refine Vla (L':=[2,3,4,5,6,7,8,9]) 1 J J J (fun _=>Zw (Zd J)) ?_;refine Vla (L':=[3,4,5,6,7,8,9]) 2 J J J (fun _=>Zi Zh (Zd J)) ?_;refine Qnb (L':=[4,5,6,7,8,9]) 3 J J J (fun w1 hx=>Zq Zg (Zd J) (fun _=>(B4.gt hx J).at_ J)) ?_;obtain ⟨hpe,p_40,c_40,hcell,hkid⟩:=Yq hk0 (i:=1) O;refine Vla (L':=[5,6,7,8,9]) 4 J J J (fun _=>Yv Zc (Zd J) Xa (fun _=>O) (fun _=>hpe)) ?_;refine Qnb (L':=[6,7,8,9]) 5 J J J (fun w1 hx=>Zo Zf (Zd J) J (fun _=>hcell.gt hx (Vu hk0 (i:=1) O))) ?_;refine Zt 6 J J ?_;refine Zn (L':=[7,8,9]) [0,3,3,0,3,0,2,1,3,2] J J J ?_;refine Zva J (Zu Vq Xy (Ya (Zd J) (Ya (Zd J) (Yl))) J) (CxM.to KB [b4,b6,b7,b8] h heA hcA hkid hbA O (Aba.2 ⟨B4.lt,Aba.2 ⟨B6.lt,Aba.2 ⟨B7.lt,Aba.2 ⟨B8.lt,Aha _⟩⟩⟩⟩) g.size) ((fun ch w' hz=>fun _ _=>Vud hz (by rw [eU,← hV];exact Er.refl _) (by rw [hsA.scope];exact Aaa _) g O hbx (fun j hj=>hj))) ?_;rintro v42 w42 ⟨⟨p42,c42,rfl,q42,k42⟩,he42,h,g42⟩;refine ⟨nw1,?_⟩;have g:=gtw g g42;try replace B4:=B4.gt g42 rfl
 try replace B6:=B6.gt g42 rfl
 try replace B7:=B7.gt g42 rfl
 try replace B8:=B8.gt g42 rfl
 have k18:=k18.gtc g42;rw [← hV] at he42 h;refine Zy (g42) ?_;refine Zt 7 J J ?_;refine Zn (L':=[8,9]) [0,3,3,0,3,0,2,1,3,2] J J J ?_;refine Yc _ J Zc Zs (pqc J (pqc J pq0)) J J ?_;intro b43 w43 N43;have x43_4:=N43.ne B4;have x43_6:=N43.ne B6;have x43_7:=N43.ne B7;have x43_8:=N43.ne B8;have l43:=We N43 g.size;have k18:=k18.new N43;have k42:=k42.new N43;have g:=gtg g N43.g;replace B4:=B4.grow (N43.g);replace B6:=B6.grow (N43.g);replace B7:=B7.grow (N43.g);replace B8:=B8.grow (N43.g);have h:=h.grow (N43.g);have B43:=N43.blk;refine Zy (GT.of_g (N43.g)) ?_;refine Vla (L':=[9]) 8 J J J (fun _=>Zi Zh (Zd J)) ?_;refine Zt 9 J J ?_;refine Xb (L':=[]) [0,3,3,0,3,0,2,1,3,2] J J J J ?_;refine Xr J Vb (Zd J) (Zd J) J B7 J J ?_;intro wS3 hgS3 hzS3;have C7:=B7;clear B7;intro B7;replace B4:=Kp B4 hgS3;replace B6:=Kp B6 hgS3;replace B8:=Kp B8 hgS3;replace B43:=Kp B43 hgS3;have g:=Yd g hgS3 O;have h:=h.keep hgS3 C7 O (.inl rfl);have k18:=k18.keep hgS3 Oi;have k42:=k42.keep hgS3 Oi;refine Xx ?_;refine TK [6,7] ?_;refine Jg (hK8 _ _ _ ?_);refine Wg fun K9 hK9=>?_;refine Wc [0,2] ?_;refine Uz J (Zo Zf (Zd J) J (fun _=>B7.row)) ?_;refine Xq J Yj (Zd J) (Zd J) J J B6 J J ?_;intro wS4 hgS4 hzS4;have C6:=B6;clear B6;intro B6;replace B4:=Kp B4 hgS4;replace B7:=Kp B7 hgS4;replace B8:=Kp B8 hgS4;replace B43:=Kp B43 hgS4;have g:=Yd g hgS4 O;have h:=h.keep hgS4 C6 O (.inl rfl);have k18:=k18.keep hgS4 Oi;have k42:=k42.keep hgS4 Oi;refine SK [6] ?_
 refine Ze (hK9 _ _ _ ?_);refine Jfb (?_);refine Ybd Qn (Vbb h (by rw [hvs];omega) (by rw [hvs];omega)) ?_;rintro v90 w90 ⟨rfl,h,g90⟩;have g:=gtw g g90;have B6:=B6.gt g90 rfl;have B43:=B43.gt g90 rfl;have k18:=k18.gtc g90;have k42:=k42.gtc g90;refine Zrc (Wea J (Zra J Zf J (by first|exact B4.row|exact B6.row|exact B7.row|exact B8.row|exact B43.row) (Ub)) ?_);have e1:clnT (Zb t 0)=A.1:=by rw [eA]
 rw [eU];refine ⟨he42,?_,h,g⟩;rw [hV,← e1];exact Xp (t:=annT t [_,_] ty0) rfl (Zga (ks:=[_,_]) ⟨l43,Jl B43⟩ B43.row (Uo (k18.kdN q18) (Vd (k42.kdN q42))) (Aaa _));replace h1:(Zb t 0).kind≠9:=Wsg h1;have eA:A=(ckT F (Zb t 0)).st (openS S):=by rw [hA,Wmg h1];rfl
 refine Wc [3,3,0,3,0,2,2] ?_;refine Zz J (fun _=>Zw (Zd J)) ?_;refine Zz J (fun _=>Zi Zh (Zd J)) ?_;refine Uz J (Zq Zg (Zd J) (fun _=>B4.at_ J)) ?_;obtain ⟨hpe,p_33,c_33,hcell,hkid⟩:=Yq hk0 (i:=0) O;refine Zma Zc J J O hpe ?_;refine Uz J (Zo Zf (Zd J) J (fun _=>hcell)) ?_;refine Zva J (Zu Qm Xy (Ya (Zd J) (Ya (Zd J) (Yl))) J) (CxM.to (KS h1) [b4,b6,b7,b8] h he hc hkid hbl O (Aba.2 ⟨B4.lt,Aba.2 ⟨B6.lt,Aba.2 ⟨B7.lt,Aba.2 ⟨B8.lt,Aha _⟩⟩⟩⟩) g.size) ((fun ch w' hz=>Wac hz (by rw [← eA];exact erA) (Aaa _) g O hbx (fun j hj=>hj))) ?_;rintro v35 w35 ⟨⟨p35,c35,rfl,q35,k35⟩,heA,h,g35⟩;refine ⟨nw1,?_⟩;have g:=gtw g g35;try replace B4:=B4.gt g35 rfl
 try replace B6:=B6.gt g35 rfl
 try replace B7:=B7.gt g35 rfl
 try replace B8:=B8.gt g35 rfl
 have hk0:=hk0.gt g35 (fun k h=>h);rw [← eA] at k35 heA h;refine Xq J Yj (Zd J) (Zd J) J J B8 J J ?_;intro wS5 hgS5 hzS5;have C8:=B8;clear B8;intro B8;replace B4:=Kp B4 hgS5;replace B6:=Kp B6 hgS5;replace B7:=Kp B7 hgS5;have g:=Yd g hgS5 O;have h:=h.keep hgS5 C8 O (.inl rfl);have hk0:=hk0.keep hgS5 (fun k hk _ e=>by injection e with e;omega);have k35:=k35.keep hgS5 Oi;refine SK [0,4,6,7,8] ?_;refine Ze (hK6 _ _ _ ?_);refine Wg fun K10 hK10=>?_;refine Ufc (gtC X n0) [0,3,3,0,3,0,1,1,3,2] [0,0,0,4,12,28,62,127,255,511] mix KR [0,1,2,3,4,5,6,7,8,9] J ?_;have g:=gtd g;replace B4:=B4.grow (G.drew _);replace B6:=B6.grow (G.drew _);replace B7:=B7.grow (G.drew _);replace B8:=B8.grow (G.drew _);have h:=h.grow (G.drew _);have hk0:=hk0.grow (G.drew _);have k35:=k35.grow (G.drew _);refine Qnb (L':=[1,2,3,4,5,6,7,8,9]) 0 J J J (fun w1 hx=>Zo Zf (Zd J) J (fun _=>(B8.gt hx J).row)) ?_;refine Vla (L':=[2,3,4,5,6,7,8,9]) 1 J J J (fun _=>Zw (Zd J)) ?_;refine Vla (L':=[3,4,5,6,7,8,9]) 2 J J J (fun _=>Zi Zh (Zd J)) ?_;refine Qnb (L':=[4,5,6,7,8,9]) 3 J J J (fun w1 hx=>Zq Zg (Zd J) (fun _=>(B4.gt hx J).at_ J)) ?_;obtain ⟨hpe,p_40,c_40,hcell,hkid⟩:=Yq hk0 (i:=1) O;refine Vla (L':=[5,6,7,8,9]) 4 J J J (fun _=>Yv Zc (Zd J) Xa (fun _=>O) (fun _=>hpe)) ?_;refine Qnb (L':=[6,7,8,9]) 5 J J J (fun w1 hx=>Zo Zf (Zd J) J (fun _=>hcell.gt hx (Vu hk0 (i:=1) O))) ?_;refine Zt 6 J J ?_;refine Zn (L':=[7,8,9]) [0,3,3,0,3,0,2,1,3,2] J J J ?_
 refine Zva J (Zu Vq Xy (Ya (Zd J) (Ya (Zd J) (Yl))) J) (CxM.to KB [b4,b6,b7,b8] h heA hcA hkid hbA O (Aba.2 ⟨B4.lt,Aba.2 ⟨B6.lt,Aba.2 ⟨B7.lt,Aba.2 ⟨B8.lt,Aha _⟩⟩⟩⟩) g.size) ((fun ch w' hz=>fun _ _=>Vud hz (by rw [eU,← hV];exact Er.refl _) (by rw [hsA.scope];exact Aaa _) g O hbx (fun j hj=>hj))) ?_;rintro v42 w42 ⟨⟨p42,c42,rfl,q42,k42⟩,he42,h,g42⟩;refine ⟨nw1,?_⟩;have g:=gtw g g42;try replace B4:=B4.gt g42 rfl
 try replace B6:=B6.gt g42 rfl
 try replace B7:=B7.gt g42 rfl
 try replace B8:=B8.gt g42 rfl
 have k35:=k35.gtc g42;rw [← hV] at he42 h;refine Zy (g42) ?_;refine Zt 7 J J ?_;refine Zn (L':=[8,9]) [0,3,3,0,3,0,2,1,3,2] J J J ?_;refine Yc _ J Zc Zs (pqc J (pqc J pq0)) J J ?_;intro b43 w43 N43;have x43_4:=N43.ne B4;have x43_6:=N43.ne B6;have x43_7:=N43.ne B7;have x43_8:=N43.ne B8;have l43:=We N43 g.size;have k35:=k35.new N43;have k42:=k42.new N43;have g:=gtg g N43.g;replace B4:=B4.grow (N43.g);replace B6:=B6.grow (N43.g);replace B7:=B7.grow (N43.g);replace B8:=B8.grow (N43.g);have h:=h.grow (N43.g);have B43:=N43.blk;refine Zy (GT.of_g (N43.g)) ?_;refine Vla (L':=[9]) 8 J J J (fun _=>Zi Zh (Zd J)) ?_;refine Zt 9 J J ?_;refine Xb (L':=[]) [0,3,3,0,3,0,2,1,3,2] J J J J ?_;refine Xr J Vb (Zd J) (Zd J) J B7 J J ?_;intro wS6 hgS6 hzS6;have C7:=B7;clear B7;intro B7;replace B4:=Kp B4 hgS6;replace B6:=Kp B6 hgS6;replace B8:=Kp B8 hgS6;replace B43:=Kp B43 hgS6;have g:=Yd g hgS6 O;have h:=h.keep hgS6 C7 O (.inl rfl);have k35:=k35.keep hgS6 Oi;have k42:=k42.keep hgS6 Oi;refine Xx ?_;refine TK [6,7] ?_;refine Jg (hK10 _ _ _ ?_);refine Wg fun K11 hK11=>?_;refine Wc [0,2] ?_;refine Uz J (Zo Zf (Zd J) J (fun _=>B7.row)) ?_;refine Xq J Yj (Zd J) (Zd J) J J B6 J J ?_;intro wS7 hgS7 hzS7;have C6:=B6;clear B6;intro B6;replace B4:=Kp B4 hgS7;replace B7:=Kp B7 hgS7;replace B8:=Kp B8 hgS7;replace B43:=Kp B43 hgS7;have g:=Yd g hgS7 O;have h:=h.keep hgS7 C6 O (.inl rfl);have k35:=k35.keep hgS7 Oi;have k42:=k42.keep hgS7 Oi;refine SK [6] ?_
 refine Ze (hK11 _ _ _ ?_);refine Jfb (?_);refine Ybd Qn (Vbb h (by rw [hvs];omega) (by rw [hvs];omega)) ?_;rintro v90 w90 ⟨rfl,h,g90⟩;have g:=gtw g g90;have B6:=B6.gt g90 rfl;have B43:=B43.gt g90 rfl;have k35:=k35.gtc g90;have k42:=k42.gtc g90;refine Zrc (Wea J (Zra J Zf J (by first|exact B4.row|exact B6.row|exact B7.row|exact B8.row|exact B43.row) (Ub)) ?_);rw [eU];refine ⟨he42,?_,h,g⟩;rw [← eA] at B43;rw [hV];exact Xp (t:=annT t [_,_] ty0) rfl (Zga (ks:=[_,_]) ⟨l43,Jl B43⟩ B43.row (Uo (k35.kdN q35) (Vd (k42.kdN q42))) (Aaa _))
theorem Ysf{sc:List (List Vr)}{m:Nat}{l:List Vr}{x:Vr}(hl:sc.length=m+1)(hm:sc[m]? = some l):(sc.set m (l++[x])).flatten=sc.flatten++[x]:=by
 have hlt:m<sc.length:=by omega
 have e:sc[m]=l:=(List.getElem?_eq_some_iff.1 hm).2
 have h1:sc=sc.take m++[l]:=by
  conv=>lhs;rw [← List.take_append_drop m sc,List.drop_eq_getElem_cons hlt]
  rw [Aua O,e]
 have h2:sc.set m (l++[x])=sc.take m++[l++[x]]:=by
  rw [List.set_eq_take_append_cons_drop,if_pos hlt,Aua O]
 rw [h2];conv=>rhs;rw [h1]
 simp
section
variable {F:Nd} {n0 b:Nat} {TB X:List Nat} {r0:Option (List Ty)} {S:CSt} {fv:Da} {ms mg mn mf:Nat} {pv:Nat→Da} {sv cv rv:Da} {vs:List Da} {sc:List (List Vr)} {w w' w1 w2 w3 w4 w5:Aa}
theorem PK.dup(h:PK F n0 b TB X r0 S fv ms mg mn mf pv sv cv rv vs sc w){l:List Vr}(hl:sc[S.scope]? = some l)(s:List UInt8):dupV S s=l.any fun v=>decide (v.name=s):=by
 unfold dupV;rw [← h.fl,Bool.eq_iff_iff,Aqa,Aqa];constructor;rintro ⟨v,hv,h1⟩;rw [Ara] at h1;obtain ⟨k,hk,hv⟩:=List.mem_flatten.1 hv;obtain ⟨i,hi,rfl⟩:=List.getElem_of_mem hk;have h2:=h.ss i _ (Aea hi) v hv;have h3:v.scope=S.scope:=Wrg h1.1;rw [h2] at h3;subst h3;rw [Aea hi] at hl;injection hl with hl;subst hl;exact ⟨v,hv,h1.2⟩;rintro ⟨v,hv,h1⟩;exact ⟨v,List.mem_flatten.2 ⟨l,Ava hl,hv⟩,by rw [h.ss _ _ hl v hv,Wng rfl,h1];rfl⟩
theorem Xgd{s:List UInt8}{y:Ty}{a:Int}(h:dupV S s=false):declS s y a S = { S with next:=S.next.set S.level (declN S+1),vars:=S.vars++[⟨s,y,declN S,S.level,S.scope⟩] }:=by
 unfold declS;rw [h];rfl
theorem PK.dcl(h:PK F n0 b TB X r0 S fv ms mg mn mf pv sv cv rv vs sc w){s:List UInt8}{y:Ty}{a:Int}{l:List Vr}{u u':Da}(hl:sc[S.scope]? = some l)(hu:vs[S.scope]? = some u)(hd:dupV S s=false)(hlv:Ln S)
 (hg1:w.grownBy w1 u.ownBlock) (ho1:w1.ownsRow n0 84 5 u' (l.length+1) (l.flatMap pvCells++pvCells ⟨s,y,declN S,S.level,S.scope⟩)) (hat:∀ k,u'.ownBlock=some k→u.ownBlock=some k∨w.heap.size≤k)
 (hg2:w1.grownBy w2 sv.ownBlock) (so:w2.ownsRow n0 82 1 sv vs.length (vs.set S.scope u')) (hg3:w2.grownBy w3 cv.ownBlock) (co:w3.ownsRow n0 3 1 cv (S.level+1) (((S.next.take (S.level+1)).map fun (k:Nat)=>Value.int .i64 (k:Int)).set S.level (.int .i64 ((declN S+1:Nat):Int)))) :
 PK F n0 b TB X r0 (declS s y a S) fv ms mg mn mf pv sv cv rv (vs.set S.scope u') (sc.set S.scope (l++[⟨s,y,declN S,S.level,S.scope⟩])) w3∧GT (mutC X) n0 w w3:=by
 obtain ⟨l',hl',hr⟩:=h.sr.ex hu;rw [hl] at hl';injection hl' with hl';subst hl';have hux:=h.vx _ _ hu;have so1:=Ym h.so hg1 (Yja h.so hr rfl);have co1:=Ym h.co hg1 (Yja h.co hr rfl);have co2:=Ym co1 hg2 (Yja co1 so1 rfl);have ro1:=Ym h.ro hg1 (Yja h.ro hr rfl);have ro2:=Ym ro1 hg2 (Yja ro1 so1 rfl);have B1:Blk w1 b 59 _:=h.B.keep hg1 (fun e=>Wb hr h.B rfl e.symm);have B2:Blk w2 b 59 _:=B1.keep hg2 (fun e=>Wb so1 B1 rfl e.symm);have B3:Blk w3 b 59 _:=B2.keep hg3 (fun e=>Wb co2 B2 rfl e.symm);have G:GT (mutC X) n0 w w3:=((Job hr rfl hux hg1).trans (Job so1 rfl h.sx hg2)).trans (Job co2 rfl h.cx hg3);obtain ⟨t1,t2,t3,t4⟩:=h.tabs G;have hsl:=h.sl;have hm:S.scope<sc.length:=by omega
 have sr1:=h.sr.set (l':=l++[⟨s,y,declN S,S.level,S.scope⟩]) hu hg1 (by rw [Ada,Apa];simpa using ho1) hat;have sr3:=(sr1.keep hg2 (Jpb so1 rfl)).keep hg3 (Jpb co2 rfl);rw [Xgd hd];refine ⟨⟨B3,h.hb,t1,h.hF,t2,t3,?_,sr3,?_,?_,?_,?_,Ym ro2 hg3 (Yja ro2 co2 J),h.rl,h.tx,t4,h.bx,h.sx,?_,h.cx,h.rx,by rw [Aja];exact h.sz⟩,G⟩;rw [Aja];exact Ym so hg3 (Yja so co2 rfl);rw [Ysf hsl hl,h.fl];rw [Aja];exact hsl;intro i k hk v hv;by_cases hi:S.scope=i;subst hi;rw [Awa hm] at hk;injection hk with hk;subst hk;rcases List.mem_append.1 hv with q|q;exact h.ss _ _ hl v q;rw [List.mem_singleton.1 q];rw [Axa hi] at hk;exact h.ss i k hk v hv
 have e:((S.next.set S.level (declN S+1)).take (S.level+1)).map (fun (k:Nat)=>Value.int .i64 (k:Int))=((S.next.take (S.level+1)).map fun (k:Nat)=>Value.int .i64 (k:Int)).set S.level (.int .i64 ((declN S+1:Nat):Int)):=by
  rw [List.take_set,List.map_set]
 show w3.ownsRow n0 3 1 cv (S.level+1) (((S.next.set S.level (declN S+1)).take (S.level+1)).map _);rw [e];exact co;intro i v hv k hk;by_cases hi:S.scope=i;subst hi;rw [Awa (by rw [h.sr.len];exact hm)] at hv;injection hv with hv;subst hv;rcases hat k hk with q|q;exact hux k q;intro hx;have:=h.xl k hx;omega;rw [Axa hi] at hv;exact h.vx i v hv k hk
end
theorem PK.erd{F:Nd}{n0 b:Nat}{TB X:List Nat}{r0:Option (List Ty)}{S:CSt}{fv:Da}{ms mg mn mf:Nat}{pv:Nat→Da}{sv cv rv:Da}{vs:List Da}{sc:List (List Vr)}{w:Aa}(h:PK F n0 b TB X r0 S fv ms mg mn mf pv sv cv rv vs sc w){l:List Vr}(hl:sc[S.scope]? = some l){i:Nat}(h1:i<l.length){s:List UInt8}{y:Ty}{a:Int}{q:Bool}(hq:q=false→l[i].name=s)(hz:q=false):Er (failU q a 6 S) (declS s y a S):=by
 have hd:dupV S s=true:=by
  rw [h.dup hl,Aqa];exact ⟨l[i],List.getElem_mem h1,Wng (hq hz)⟩
 unfold declS;rw [hz,hd];exact Er.refl _
theorem Qza{F:Nd}{n0 b:Nat}{TB X:List Nat}{r0:Option (List Ty)}{S:CSt}{w:Aa}{N:Nat}(u:Nd)(kp:Option Addr)(km kc:Nat)(y:Ty)(h:PC F n0 b TB X r0 S w)(he:S.ee=0)(hb:Bd S N)(hN:N≤1000000) :
 RetP PP 56 #[.pointer (some ⟨b,0,none⟩),ndV u (.slice kp km kc),tyV y] w (fun r w'=>(declS u.text y u.pos S).ee=0∧r=ndV (.mk u.kind u.text (declN S) u.pos [] u.ty 1 u.up) (.slice kp km kc)∧PC F n0 b TB X r0 (declS u.text y u.pos S) w'∧GT (mutC X) n0 w w') (Bad n0 b X (S.scope+1) (declS u.text y u.pos S) w):=by
 have hlt:=h.lt;have htb:=h.tb;have htb2:∀ j∈TB,j<w.heap.size:=fun j hj=>htb.2 j (htb.1 j hj);have hlv:=hb.lv;have hnl:=hb.nl;have hvl:=hb.vl;have hscN:=hb.sc
 have hdn:declN S≤N:=by
  unfold declN;rw [Ama,Aea hlv];exact hb.nx _ (List.getElem_mem hlv)
 obtain ⟨fv,ms,mg,mn,mf,pv,sv,cv,rv,vs,sc,h⟩:=h;have hln:=h.sr.len;have hsl:=h.sl;have hfl:=h.fl;obtain ⟨l,hl⟩:∃ l,sc[S.scope]? = some l:=⟨_,Aea O⟩;obtain ⟨q,hq⟩:∃ q,vs[S.scope]? = some q:=⟨_,Aea O⟩;obtain ⟨pa,pc,rfl,hc,_⟩:=Xed h.so;obtain ⟨pi,ci,rfl,hci,_⟩:=Vyc (h.sr.row _ _ _ hq hl)
 have hll:l.length≤1000000:=by
  have hm:l∈sc:=Ava hl;have:=(List.sublist_flatten_of_mem hm).length_le;rw [hfl] at this;omega
 have esl:(((S.level+1:Nat):Int)-1).toNat=S.level:=by omega
 have esv:((vs.length:Int)-1).toNat=S.scope:=by omega
 have g:=GT.refl (mutC X) n0 w;refine Vi (m:=85) Tryz.func56 J J [(0,True,_),(1,True,_),(2,True,_)] (Za J (Za J (Za J (Zr _)))) ?_;refine Zj (Zl (BM fun b4 _ ga _ g E=>?_));have hp4:=h;have h:=Ui h;refine BN fun b5 _ N5 _ g E=>?_;have hp5:=h;have h:=h.grow (N5.g);have h:=hp5.addX N5;refine AN fun b6 _ ga _ g E=>?_;have hp6:=h;have h:=Ui h;refine Ze (kq (Zj (Zl (Zv J (Vy J (Xg Xf J (Xl Yo J (h.B.at_ J) (Yha Yt J (Zz J (fun _=>Xca (Zd J) Xa (fun _=>O)) (Yr J (Ze (kq (Zj (Zj (Zl (?_))))))))))))))));obtain ⟨pa',pc',e',_,hat⟩:=Xed h.so;injection e' with e1 _ e2;subst e1 e2;refine Zv J (Vy J (Xg Xf J (Xl Yo J (h.B.at_ J) (Zv J (Zz J (fun _=>Yv Yt (Zd J) (Zd J) (fun _=>O) (fun _=>(hat _ _ hq).1)) (Xl Vh J (by rw [esv];exact (hat _ _ hq).2) (Yha Wv J (Zv J (Ze (kq (Yx (?_))))))))))));have hnd1:=E.1;refine Uy (fun (i:Nat) u1=>(i≤l.length∧((l.take i).any fun v=>decide (v.name=u.text))=false∧PK F n0 b TB (b5::X) r0 S fv ms mg mn mf pv (.slice pa vs.length pc) cv rv vs sc u1)∧GT (mutC X) n0 w u1) _ [(0,True,_),(4,True,_),(5,True,_),(6,True,_),(7,True,_),(23,True,_),(24,True,_)] (fun (i:Nat)=>[(25,True,.int .i64 i)]) (fun (i:Nat)=>l.length-i) (0) ⟨⟨Aia _,rfl,h⟩,g⟩ (Yb (blkE E.g2) (Yb (blkE E.g1) (Yb (blkE E.g0) (Wd _)))) (Za J (Za J (Za J (Za J (Za J (Za J (Za J (Za J (Zr _))))))))) ?_;clear E;rintro i u1 ⟨hI1,gl1⟩ ⟨B4,B5,B6,_⟩;replace B4:Blk _ _ _ _:=B4;replace B5:Blk _ _ _ _:=B5;replace B6:Blk _ _ _ _:=B6;have g:=gl1;clear h hat;obtain ⟨hi,hno,h⟩:=hI1;obtain ⟨pi',ci',e',_,hrow⟩:=Vyc (h.sr.row _ _ _ hq hl);injection e' with e1 _ e2;subst e1 e2
 have E:=Vma (L:=[(b6,_,_),(b5,_,_),(b4,_,_)]) hnd1 ⟨B6,B5,B4,trivial⟩ rfl;refine IF (fun h1=>?_) fun h1=>?_;replace h1:i<l.length:=by simp only [Wpg] at h1;omega
 obtain ⟨hpe,hcell⟩:=hrow i h1;have hst:((l.take (i+1)).any fun v=>decide (v.name=u.text))=decide (l[i].name=u.text):=by rw [List.take_succ_eq_append_getElem h1,List.any_append,hno,Bool.false_or];simp
 refine AN fun _ _ N9 _ g E=>?_;have hp9:=h;have h:=h.grow (N9.g);have h:=hp9.addX N9;refine AS fun _ ga Ca g E=>?_;first|have h:=h.keep ga Ca O (.inl rfl)|have h:=h.keep ga Ca O (.inr ⟨by simp,fun hm=>by have:=htb2 _ hm;omega⟩)
 refine AU ?_;refine Y3 J Ye J J J (Vf _ _ _ _) ((fun ch w' hz=>Ul (h.sub (Y:=X) htb.1 (by intro j hj;simp [hj])).pc he Od (h.erd hl h1 (fun e=>by simpa using e) hz.1) hz g (Aaa _))) ?_;rintro _ _ ⟨rfl,hq36,ga⟩;refine RC fun g E=>?_;have h:=Uk h;refine AU ?_;refine SK [25,0,4,5,6,7,23,24] ?_;refine Ze (fun a ha=>?_);exact ⟨i+1,ha,⟨⟨h1,by rw [hst];simpa using hq36,h.sub (fun j hj=>Afa _ (htb.1 j hj)) (fun j hj=>Afa _ hj)⟩,g⟩,(Yb (blkE E.g3) (Yb (blkE E.g2) (Yb (blkE E.g1) (Wd _)))),O⟩;replace h1:i=l.length:=by simp only [Wqg] at h1;omega
 subst h1;rw [List.take_length] at hno;have hdp:dupV S u.text=false:=by rw [h.dup hl];exact hno
 refine AU ?_;obtain ⟨gs,cs,ls,ecv,hgs,hBs,hms,hls,htk,hre⟩:=Wyb h.co O
 have hel:ls[0+S.level*1]? = some (.int .i64 (declN S:Nat)):=by
  rw [Vld htk O,show 0+S.level*1=S.level by omega,List.getElem?_map,List.getElem?_take_of_lt O,Aea hlv,declN,Ama,Aea hlv];rfl
 subst ecv;refine AU ?_;refine Xh (rowR (some b4)) [3,3,3,0,3,3,0,3,1,3,1] [0,1,3,7,0,31,63,0,128,511,1023] mix KR [0,1,2,3,4,5,6,7,8,9,10] J ?_;have g:=gtd g;replace E:=E.dr;have h:=h.grow (G.drew _);have hBs:=hBs.grow (G.drew _);refine Zx 0 J J (fun _=>Zw (Zd J)) (Zx 1 J J (fun _=>Zna (Zd J)) (Zx 2 J J (fun _=>Zi Jt (Zd J)) (Yi 3 J J (fun w1 hx=>Zq Zwb (Zd J) (fun _=>(h.B.keep hx (fun e=>by injection e with e;omega)).at_ J)) (Zx 4 J J (fun _=>Zw (Zd J)) (Zx 5 J J (fun _=>Xta Zca (Zd J) (Zd J) (fun _=>O)) (Yi 6 J J (fun w1 hx=>Zq Yf (Zd J) (fun _=>by rw [esl];exact (hBs.keep hx (fun e=>Wb h.co E.g2 J e)).at_ hel)) (Zx 7 J J (fun _=>Zi Zba (Zd J)) (Zt 8 J J ?_))))))));refine Zn (L':=[9,10]) [3,3,3,0,3,3,0,3,2,3,2] J J J ?_;refine AS fun _ hgS2 Ca g E=>?_;have hBs:=hBs.keep hgS2 (fun e=>Wb h.co Ca rfl e);first|have h:=h.keep hgS2 Ca O (.inl rfl)|have h:=h.keep hgS2 Ca O (.inr ⟨by simp,fun hm=>by have:=htb2 _ hm;omega⟩)
 refine Zy (hgS2) ?_;refine Zx 9 J J (fun _=>Zi Ur (Zd J)) (Zt 10 J J ?_);refine Zn (L':=[]) [3,3,3,0,3,3,0,3,2,3,2] J J J ?_;refine AS fun _ hgS3 Ca g E=>?_;have hBs:=hBs.keep hgS3 (fun e=>Wb h.co Ca rfl e);first|have h:=h.keep hgS3 Ca O (.inl rfl)|have h:=h.keep hgS3 Ca O (.inr ⟨by simp,fun hm=>by have:=htb2 _ hm;omega⟩)
 refine Zy (hgS3) ?_;refine TK [0,4,5,6,7,10,38,39,40,41,42,43,44,45,46,47,48,49,50,51,52] ?_;refine AU ?_;refine Xh (rowR ((Value.slice pi l.length ci).ownBlock)) [3,3,3,0,3,3,3,3,0,3,3,0,3,0,0,3,0,3,3,1,1,3,2] [0,1,3,7,0,0,32,96,224,0,992,2016,0,4096,0,0,32768,0,258048,520192,1048544,2097151,4194303] mix KR [0,1,2,3,4,5,6,7,8,9,10,11,12,13,14,15,16,17,18,19,20,21,22] J ?_;have g:=gtd g;replace E:=E.dr;have h:=h.grow (G.drew _);have hBs:=hBs.grow (G.drew _);have hrw:=h.sr.row _ _ _ hq hl;obtain ⟨gq,cq,lq,epa,hgq,hBq,hmq,hlq,htq,hrq⟩:=Wyb h.so O;injection epa with e1 _ e2;subst e1 e2;have helq:lq[0+S.scope*1]? = some (.slice pi l.length ci):=by rw [Vld htq O,show 0+S.scope*1=S.scope by omega];exact hq
 refine Zx 0 J J (fun _=>Zw (Zd J)) (Zx 1 J J (fun _=>Zna (Zd J)) (Zx 2 J J (fun _=>Zi Xf (Zd J)) (Yi 3 J J (fun w1 hx=>Zq Yo (Zd J) (fun _=>(h.B.keep hx (fun e=>Wb hrw h.B J e.symm)).at_ J)) (Zx 4 J J (fun _=>Zw (Zd J)) (Zx 5 J J (fun _=>Zw (Zd J)) (Zx 6 J J (fun _=>Zna (Zd J)) (Zx 7 J J (fun _=>Zi Xf (Zd J)) (Yi 8 J J (fun w1 hx=>Zq Yo (Zd J) (fun _=>(h.B.keep hx (fun e=>Wb hrw h.B J e.symm)).at_ J)) (Zx 9 J J (fun _=>Zw (Zd J)) (Zx 10 J J (fun _=>Xta Yt (Zd J) (Zd J) (fun _=>O)) (Yi 11 J J (fun w1 hx=>Zq Vh (Zd J) (fun _=>by rw [esv];exact (hBq.keep hx (fun e=>Wb hrw hBq J e.symm)).at_ helq)) (Zx 12 J J (fun _=>Zi Xe (Zd J)) (Yi 13 J J (fun w1 hx=>Zq Yy (Zd J) (fun _=>(E.g2.keep hx (fun e=>Wb hrw E.g2 J e.symm)).at_ J)) (Yi 14 J J (fun w1 hx=>Zo Zm (Zd J) J (fun _=>(E.g1.keep hx (fun e=>Wb hrw E.g1 J e.symm)).row)) (Zx 15 J J (fun _=>Zi Ur (Zd J)) (?_))))))))))))))));refine Yi 16 J J (fun w1 hx=>Zq Yf (Zd J) (fun _=>(E.g2.keep hx (fun e=>Wb hrw E.g2 J e.symm)).at_ J)) (Zx 17 J J (fun _=>Zw (Zd J)) (Zx 18 J J (fun _=>Uv [_,_,_,_,_] Qq J Xia (Wi (Zd J) (Wi (Zd J) (Wi (Zd J) (Wi (Zd J) (Vj))))) J) (Zt 19 J J ?_)));refine Zn (L':=[20,21,22]) [3,3,3,0,3,3,3,3,0,3,3,0,3,0,0,3,0,3,3,1,2,3,2] J J J ?_;refine Yc _ J Wv Qq (pqc J pq0) J J ?_;intro b72 w72 N72;have l72:=We N72 g.size;have hp72:=h;have B72:=N72.blk;have g:=gtg g N72.g;replace E:=E.grow N72.g;have h:=h.grow (N72.g);have hBs:=hBs.grow (N72.g);have hBq:=hBq.grow (N72.g);have hrw:=Xw hrw (N72.g);refine Zy ((N72.g).only _) ?_;refine Zt 20 J J ?_;refine Zn (L':=[21,22]) [3,3,3,0,3,3,3,3,0,3,3,0,3,0,0,3,0,3,3,1,2,3,2] J J J ?_
 refine Um J Wv Qq J Od (Zd J) hrw (Zd J) J N72.blk.row J (by simp only [maxLen];omega) O (by have:=g.size;have:=h.L.hn;omega) ?_;intro a73 c73 w73 ho73 hg73 hat73;have hBq73:=hBq.keep hg73 (fun e=>Wb hrw hBq rfl e.symm);have hBs73:=hBs.keep hg73 (fun e=>Wb hrw hBs rfl e.symm);have B73:Blk w73 b 59 _:=h.B.keep hg73 (fun e=>Wb hrw h.B rfl e.symm);replace E:=E.keepN hrw hg73 rfl;refine Zy (hg73) ?_;refine Zx 21 J J (fun _=>Xta Yt (Zd J) (Zd J) (fun _=>O)) (Zt 22 J J ?_);refine Xb (L':=[]) [3,3,3,0,3,3,3,3,0,3,3,0,3,0,0,3,0,3,3,1,2,3,2] J J J J ?_;refine Xn J Wia (Zd J) (Zd J) J J hBq73 (Nat.ble_eq.mpr (by have:=hlq;have:=hmq;simp;omega)) J ?_;intro wA hgA hzA BA;replace E:=E.keepT hgA hBq73 rfl;have hBs74:=hBs73.keep hgA (fun e=>by injection e with e;exact Zia hBs73 hBq73 Od e);have B74:=B73.keep hgA (fun e=>by injection e with e;exact Zia B73 hBq73 Od e);replace BA:Blk wA gq 82 (lq.set (0+S.scope*1) (.slice a73 (l.length+1) c73)):=by rw [Yye O];rw [esv] at BA;exact BA
 have so74:=hrq _ _ BA (by rw [Aja];exact hlq);have e5:(lq.set (0+S.scope*1) (.slice a73 (l.length+1) c73)).take (vs.length*1)=vs.set S.scope (.slice a73 (l.length+1) c73):=by rw [take_set _ _ _ _ O,htq,show 0+S.scope*1=S.scope by omega]
 rw [e5] at so74;refine Xx ?_;refine Wra [(0,_,_),(4,_,_),(5,_,_),(6,_,_),(7,_,_),(10,_,_),(38,_,_),(39,_,_),(40,_,_),(41,_,_),(42,_,_),(43,_,_),(44,_,_),(45,_,_),(46,_,_),(47,_,_),(48,_,_),(49,_,_),(50,_,_),(51,_,_),(52,_,_),(53,_,_),(54,_,_),(55,_,_),(56,_,_),(57,_,_),(58,_,_),(59,_,_),(60,_,_),(61,_,_),(62,_,_),(63,_,_),(64,_,_),(65,_,_),(66,_,_),(67,_,_),(68,_,_),(69,_,_),(70,_,_),(71,_,_),(72,_,_),(73,_,_),(74,_,_)] (Za J (Za J (Za J (Za J (Za J (Za J (Za J (Za J (Za J (Za J (Za J (Za J (Za J (Za J (Za J (Za J (Za J (Za J (Za J (Za J (Za J (Za J (Za J (Za J (Za J (Za J (Za J (Za J (Za J (Za J (Za J (Za J (Za J (Za J (Za J (Za J (Za J (Za J (Za J (Za J (Za J (Za J (Za J (Zr _)))))))))))))))))))))))))))))))))))))))))))) (Jg (kq (Zj (Zl (Zv J (Vy J (Xg Jt J (Xl Zwb J (B74.at_ J) (Zv J (Xeb Zca J J O (Xl Yf J (by rw [esl];exact hBs74.at_ hel) (Jga J J O (Xeb Zca J J O (Xn J Wta (Zd J) (Zd J) J J hBs74 (Nat.ble_eq.mpr (by have:=hls;have:=hms;simp;omega)) J ?_))))))))))))));intro wB hgB hzB BB;replace E:=E.keepT hgB hBs74 rfl;replace BB:Blk wB gs 3 (ls.set (0+S.level*1) (.int .i64 ((declN S+1:Nat):Int))):=by rw [Yye O];rw [esl] at BB;exact BB
 have co83:=hre _ _ BB (by rw [Aja];exact hls);rw [take_set _ _ _ _ O,htk,show 0+S.level*1=S.level by omega] at co83;rw [show (((S.level+1:Nat):Int)-1)=((S.level:Nat):Int) by omega] at ho73;obtain ⟨h,G83⟩:=h.dcl (y:=y) (a:=u.pos) hl hq hdp hlv hg73 ho73 (fun k hk=>hat73.imp (fun q=>q.symm.trans hk) fun q=>by rw [hk] at q;injection q with q;omega) hgA so74 hgB co83;have g:=gtw g G83;refine AS fun _ ga Ca g E=>?_;first|have h:=h.keep ga Ca O (.inl rfl)|have h:=h.keep ga Ca O (.inr ⟨by simp,fun hm=>by have:=htb2 _ hm;omega⟩)
 refine RTN ?_;exact ⟨by rw [Xgd hdp];exact he,rfl,(h.sub htb.1 (by intro j hj;simp [hj])).pc,g⟩
theorem RowAt.kn{w w':Aa}{b o:Nat}{l:List Da}(h:RowAt w b o l)(hg:w.grownBy w' none):RowAt w' b o l:=fun i v hi =>
 (Fa (hg.block _ (Ea w _ (h i v hi)) (fun e=>nomatch e))).trans (h i v hi)
theorem Ytf(x:Nd):((decide (x.kind=28) || decide (x.kind=29)) || (decide (x.kind=27) && !decide (x.ref=3)))=(((decide (x.kind=27) && !decide (x.ref=3)) || decide (x.kind=28)) || decide (x.kind=29)):=by
 cases decide (x.kind=28) <;> cases decide (x.kind=29) <;> cases (decide (x.kind=27) && !decide (x.ref=3)) <;> rfl
theorem Qf{b5 lo b' o':Nat}{X:List Nat}{w:Aa}{ks:List Nd}{u x:Nd}{s:Da}{news:List Da}(hB:Blk w b5 26 (ndCells u s))(hO:OwnN X lo w ks s)(h5:b5∈X)(hR:RowAt w b' o' news)(hK:KRow w (fun b=>(Dx lo X b∧NdR w b)∧some b≠s.ownBlock) [x] news)(hlen:ks.length+1≤10000000)(hlo:lo≤w.heap.size)(hD:Dx lo X w.heap.size) :
 Ret PP 111 #[.slice (some ⟨b',o',none⟩) 1 1,.pointer (some ⟨b5,0,none⟩)] w fun r w'=>r = .tuple #[]∧∃ a c w1,OwnN X lo w' (ks++[x]) (.slice a (ks++[x]).length c)∧w.grownBy w1 s.ownBlock∧w1.grownBy w' (some b5)∧Blk w1 b5 26 (ndCells u s)∧Blk w' b5 26 (ndCells u (.slice a (ks++[x]).length c)):=by
 have g:=G.refl w;refine WK 8 [0,1] Tryz.func111 ?_;refine AU ?_;refine Wca J Zc Zs J (Zd J) hO (Zd J) J hR hK hlen hlo hD ?_;intro a6 c6 w6 hO6 hg6;have B6:=hB.keep hg6 (hO.ne h5);refine AU ?_;refine Xr J Vb (Zd J) (Zd J) J B6 J J ?_;intro w8 hg8 hz8 B8;have hO8:=hO6.keep hg8 h5;refine Ze (Yfa J ?_);exact ⟨rfl,a6,c6,w6,hO8,hg6,hg8,B6,B8⟩
section
variable {F t:Nd} {S:CSt}
theorem Whb(F t:Nd)(S:CSt):(ckT F t).st S=stR F t (ckX F t) S:=by rw [Zha];rfl
theorem Vvd(h:t.kind=10):(ckT F t).st S=(ckT F t).blk S:=by rw [Zha];show stR F t (ckX F t) S=blkR t (ckX F t) S;unfold stR;rw [h];rfl
theorem st_18'(h:t.kind=18):(ckT F t).st S=(ckT F t).ifs S:=by rw [Zha];show stR F t (ckX F t) S=ifR t (ckX F t) S;unfold stR;rw [h];rfl
theorem st_6(h:t.kind=6):(ckT F t).st S=varR F t (ckX F t) S:=by rw [Whb];unfold stR;rw [h];rfl
theorem st_11(h:t.kind=11):(ckT F t).st S=defR t (ckX F t) S:=by rw [Whb];unfold stR;rw [h];rfl
theorem st_12(h:t.kind=12):(ckT F t).st S=asgR t (ckX F t) S:=by rw [Whb];unfold stR;rw [h];rfl
theorem st_18(h:t.kind=18):(ckT F t).st S=ifR t (ckX F t) S:=by rw [Whb];unfold stR;rw [h];rfl
theorem st_19(h:t.kind=19):(ckT F t).st S=forR t (ckX F t) S:=by rw [Whb];unfold stR;rw [h];rfl
theorem st_20(h:t.kind=20):(ckT F t).st S=retR t (ckX F t) S:=by rw [Whb];unfold stR;rw [h];rfl
theorem st_22(h:t.kind=22):(ckT F t).st S=selR t (ckX F t) S:=by rw [Whb];unfold stR;rw [h];rfl
theorem st_13(h:t.kind=13∨t.kind=14∨t.kind=15):(ckT F t).st S=(annT t [((ckX F t 0).ex S).1] ty0,((ckX F t 0).ex S).2):=by
 rw [Whb];unfold stR;rcases h with h|h|h <;> (rw [h];rfl)
theorem st_16(h:t.kind=16):(ckT F t).st S=(annT t [((ckX F t 0).ex S).1,((ckX F t 1).ex (wantS ((ckX F t 0).ex S).1 6 (Zb t 0).pos ((ckX F t 0).ex S).2)).1] ty0,wantS ((ckX F t 1).ex (wantS ((ckX F t 0).ex S).1 6 (Zb t 0).pos ((ckX F t 0).ex S).2)).1 1 (Zb t 1).pos ((ckX F t 1).ex (wantS ((ckX F t 0).ex S).1 6 (Zb t 0).pos ((ckX F t 0).ex S).2)).2):=by rw [Whb];unfold stR;rw [h];rfl
theorem st_17(h:t.kind=17):(ckT F t).st S=(annT t [((ckX F t 0).ex S).1] ty0,wantS ((ckX F t 0).ex S).1 6 (Zb t 0).pos ((ckX F t 0).ex S).2):=by rw [Whb];unfold stR;rw [h];rfl
theorem st_21(h:t.kind=21):(ckT F t).st S=(annT t [((ckX F t 0).ex S).1] ty0,failU (decide (((ckX F t 0).ex S).1.ty.kind=1) || decide (((ckX F t 0).ex S).1.ty.kind=2)) (Zb t 0).pos 7 ((ckX F t 0).ex S).2):=by rw [Whb];unfold stR;rw [h];rfl
def restA(F t:Nd)(S:CSt):Nat→List Nd×CSt
 | 0=>([],S)
 | i+1 =>
  let a:=restA F t S i
  let e:=bif decide ((Zb t (i+1)).kind=9) then (clnT (Zb t (i+1)),a.2) else (ckT F (Zb t (i+1))).st a.2
  (a.1++[e.1],e.2)
theorem Ypc(F t:Nd)(S:CSt):∀ i,(restA F t S i).1.length=i
 | 0=>rfl
 | i+1=>by
  show ((restA F t S i).1++[_]).length=_;rw [Ada,Ypc F t S i];rfl
theorem Xge(F t:Nd)(S:CSt)(i:Nat):∀ k,Er (restA F t S i).2 (restA F t S (i+k)).2
 | 0=>Er.refl _
 | k+1=>by
  refine (Xge F t S i k).trans ?_;show Er _ (bif decide ((Zb t (i+k+1)).kind=9) then (clnT (Zb t (i+k+1)),(restA F t S (i+k)).2) else (ckT F (Zb t (i+k+1))).st (restA F t S (i+k)).2).2;cases decide ((Zb t (i+k+1)).kind=9);exact ((Uh F _).st _).e;exact Er.refl _
def cndA(F t:Nd)(S:CSt):Nd×CSt:=condR (Zb t 0) (ckT F (Zb t 0)) S
theorem Yuf(h:t.kids.length=2)(h1:(Zb t 1).kind=10):forR t (ckX F t) S=(annT t ((cndA F t S).1::(restA F t (cndA F t S).2 1).1) ty0,(restA F t (cndA F t S).2 1).2):=by
 unfold forR cndA;rw [Wl (show 0<t.kids.length by omega),Wl (show 1<t.kids.length by omega)];show _=(annT t (_::([]++[(bif decide ((Zb t 1).kind=9) then (clnT (Zb t 1),_) else (ckT F (Zb t 1)).st _).1])) ty0,(bif decide ((Zb t 1).kind=9) then (clnT (Zb t 1),_) else (ckT F (Zb t 1)).st _).2);rw [h1];show _=(annT t (_::([]++[((ckT F (Zb t 1)).st _).1])) ty0,((ckT F (Zb t 1)).st _).2);rw [Vvd h1];rfl
theorem Qef(h:t.kids.length=3)(h1:(Zb t 1).kind=10)(h2:(Zb t 2).kind=10∨(Zb t 2).kind=18∨(Zb t 2).kind=9):ifR t (ckX F t) S=(annT t ((cndA F t S).1::(restA F t (cndA F t S).2 2).1) ty0,(restA F t (cndA F t S).2 2).2):=by
 unfold ifR cndA;rw [Wl (show 0<t.kids.length by omega),Wl (show 1<t.kids.length by omega),Wl (show 2<t.kids.length by omega)]
 have e1:∀ T,restA F t T 1=([((ckT F (Zb t 1)).blk T).1],((ckT F (Zb t 1)).blk T).2):=fun T=>by
  show (([]++[(bif decide ((Zb t 1).kind=9) then (clnT (Zb t 1),T) else (ckT F (Zb t 1)).st T).1]:List Nd),(bif decide ((Zb t 1).kind=9) then (clnT (Zb t 1),T) else (ckT F (Zb t 1)).st T).2)=_;rw [h1];show (([]++[((ckT F (Zb t 1)).st T).1]:List Nd),((ckT F (Zb t 1)).st T).2)=_;rw [Vvd h1];rfl
 have e2:∀ T,restA F t T 2=([((ckT F (Zb t 1)).blk T).1,(bif decide ((Zb t 2).kind=9) then (clnT (Zb t 2),((ckT F (Zb t 1)).blk T).2) else (ckT F (Zb t 2)).st ((ckT F (Zb t 1)).blk T).2).1],(bif decide ((Zb t 2).kind=9) then (clnT (Zb t 2),((ckT F (Zb t 1)).blk T).2) else (ckT F (Zb t 2)).st ((ckT F (Zb t 1)).blk T).2).2):=fun T=>by rw [restA,e1];rfl
 rw [e2];rcases h2 with q|q|q;rw [q];show (annT t [_,_,((ckT F (Zb t 2)).blk _).1] ty0,((ckT F (Zb t 2)).blk _).2)=(annT t [_,_,((ckT F (Zb t 2)).st _).1] ty0,((ckT F (Zb t 2)).st _).2);rw [Vvd q];rw [q];show (annT t [_,_,((ckT F (Zb t 2)).ifs _).1] ty0,((ckT F (Zb t 2)).ifs _).2)=(annT t [_,_,((ckT F (Zb t 2)).st _).1] ty0,((ckT F (Zb t 2)).st _).2);rw [st_18' q];rw [q];rfl
def retA(F t:Nd)(S:CSt):Nat→List Nd×CSt
 | 0=>([],S)
 | i+1=>((retA F t S i).1++[((ckT F (Zb t i)).ex (retA F t S i).2).1],failU (Us S.result ((ckT F (Zb t i)).ex (retA F t S i).2).1.ty) (Zb t i).pos 7 ((ckT F (Zb t i)).ex (retA F t S i).2).2)
theorem ret_A(h:t.kids.length≤1):retR t (ckX F t) S=(annT t (retA F t (failU (!Ala (decide ((t.kids.length:Int)=1)) (!tyEqB S.result ty0)) t.pos 7 S) t.kids.length).1 ty0,(retA F t (failU (!Ala (decide ((t.kids.length:Int)=1)) (!tyEqB S.result ty0)) t.pos 7 S) t.kids.length).2):=by
 unfold retR;have h2:t.kids.length=0∨t.kids.length=1:=by omega
 rcases h2 with q|q;rw [q];rfl;rw [q,Wl (show 0<t.kids.length by omega)];have hs:=((Uh F (Zb t 0)).ex (failU (!Ala (decide (((1:Nat):Int)=1)) (!tyEqB S.result ty0)) t.pos 7 S)).result;show (annT t [_] ty0,failU (Us ((ckT F (Zb t 0)).ex _).2.result _) _ _ _)=(annT t ([]++[_]) ty0,failU (Us (failU _ _ _ S).result _) _ _ _);rw [hs];rfl
theorem Vwd(F t:Nd)(S:CSt):∀ i,(retA F t S i).1.length=i
 | 0=>rfl
 | i+1=>by
  show ((retA F t S i).1++[_]).length=_;rw [Ada,Vwd F t S i];rfl
theorem Zhe(F t:Nd)(S:CSt)(i:Nat):∀ k,Er (retA F t S i).2 (retA F t S (i+k)).2
 | 0=>Er.refl _
 | k+1=>(Zhe F t S i k).trans (((Uh F _).ex _).e.failu _ _ _)
theorem Vxd(t:Nd)(x:Nat→Ck)(S:CSt):∀ i,(selA t x S i).1.length=i
 | 0=>rfl
 | i+1=>by
  show ((selA t x S i).1++[_]).length=_;rw [Ada,Vxd t x S i];rfl
end
section
variable {F t:Nd} {x:Nat→Ck} {S:CSt}
theorem er_v0(Z:∀ i,CkS (x i) (cN t i)):Er (localS F (Zb t 0) S) (varR F t x S).2:=by
 unfold varR;dsimp only;refine Er.decl ?_ _ _ _;cases decide ((Zb t 1).kind=9);exact ((Z 1).ex _).e.failu _ _ _;exact Er.refl _
theorem Xhe{k:Nd}(h:noneB k=true∨exprB k=true)(h9:k.kind=9):k.kids=[]:=h.elim (fun q=>Aya.1 (Jw q).2.2) fun q=>absurd h9 (Qhc q)
theorem Yvf(h:(Zb t 1).kind=9)(hk:(Zb t 1).kids=[])(eL:localS F (Zb t 0) S=S):varR F t x S=(dclT t [plainT (Zb t 0),plainT (Zb t 1)] (declN S),declS t.text (ofF (Zb t 0)).1 t.pos S):=by
 unfold varR;dsimp only;rw [Wng h,eL,Qla hk];rfl
theorem Ywf(h:(Zb t 1).kind≠9)(eL:localS F (Zb t 0) S=S)(hx:x 1=ckT F (Zb t 1)):varR F t x S=(dclT t [plainT (Zb t 0),((ckT F (Zb t 1)).ex S).1] (declN (failU (Us (ofF (Zb t 0)).1 ((ckT F (Zb t 1)).ex S).1.ty) (Zb t 1).pos 7 ((ckT F (Zb t 1)).ex S).2)),declS t.text (ofF (Zb t 0)).1 t.pos (failU (Us (ofF (Zb t 0)).1 ((ckT F (Zb t 1)).ex S).1.ty) (Zb t 1).pos 7 ((ckT F (Zb t 1)).ex S).2)):=by
 unfold varR;dsimp only;rw [Wmg h,eL,hx];rfl
end
theorem Vua(F t:Nd):Fx (ckT F t).ex:=⟨fun S hs hc=>(Voc F t).ex S hs hc,fun S=>((Uh F t).ex S).scope⟩
theorem Xhd{k:Nd}(h:blockB k=true):stmtB k=true:=by
 unfold blockB at h;unfold stmtB;simp only [Ara,Wpg] at h;rw [h.1,h.2];rfl
theorem Jxf{k:Nd}(h:ifB k=true):stmtB k=true:=by
 unfold ifB at h;unfold stmtB;simp only [Ara,Wpg] at h;rw [h.1,h.2];rfl
theorem st_rest'{F t:Nd}{S:CSt}(hx:stmtB t=true)(h:t.kind=18∨t.kind=19):(2≤t.kids.length∧t.kids.length≤3)∧(noneB (Zb t 0)=true∨exprB (Zb t 0)=true)∧(∀ i,i+1<t.kids.length→((Zb t (i+1)).kind=9→(Zb t (i+1)).kids=[])∧((Zb t (i+1)).kind≠9→stmtB (Zb t (i+1))=true))∧
 (ckT F t).st S=(annT t ((cndA F t S).1::(restA F t (cndA F t S).2 (t.kids.length-1)).1) ty0,(restA F t (cndA F t S).2 (t.kids.length-1)).2):=by
 rcases h with h|h;obtain ⟨hl,h0,h1,h2⟩:=sh18 (sh18s h hx)
 have k2:(Zb t 2).kind=10∨(Zb t 2).kind=18∨(Zb t 2).kind=9:=by
  rcases h2 with q|q|q;exact .inl (Qv q);exact .inr (.inl (Wrg (Asa.1 q).1));exact .inr (.inr (Jw q).1)
 refine ⟨O,.inr h0,fun i hi=>?_,?_⟩;have hi:i=0∨i=1:=by omega
 rcases hi with q|q <;> subst q
 exact ⟨fun q=>(by rw [Qv h1] at q;cases q),fun _=>Xhd h1⟩;refine ⟨fun q=>?_,fun q=>?_⟩;rcases h2 with z|z|z;rw [Qv z] at q;cases q;rw [show (Zb t 2).kind=18 from Wrg (Asa.1 z).1] at q;cases q;exact Aya.1 (Jw z).2.2;rcases h2 with z|z|z;exact Xhd z;exact Jxf z;exact absurd (Jw z).1 q;rw [st_18 h,Qef hl (Qv h1) k2,hl];obtain ⟨hl,h0,h1⟩:=sh19 h hx;refine ⟨O,h0,fun i hi=>?_,?_⟩;have hi:i=0:=by omega
 subst hi;exact ⟨fun q=>(by rw [Qv h1] at q;cases q),fun _=>Xhd h1⟩;rw [st_19 h,Yuf hl (Qv h1),hl]
section
variable {F t:Nd} {S:CSt}
theorem Yug(hs:Sc S):Vs S (cndA F t S).2:=by
 unfold cndA condR;cases decide ((Zb t 0).kind=9);exact ((Qxa F _).ex S hs).failu _ _ _;exact Vs.refl S
theorem Qff(h:0<t.kids.length):Stp (sC t 1) S (cndA F t S).2:=by
 have e:sC t 1=count (Zb t 0):=by
  have:=Xra h;show 0+cN t 0=_;omega
 unfold cndA condR;cases decide ((Zb t 0).kind=9);rw [e];exact ((Uh F _).ex S).failu _ _ _;exact (Stp.refl S).mono (Aia _)
theorem Yxf(h:(Zb t 0).kind=9):cndA F t S=(clnT (Zb t 0),S):=by unfold cndA condR;rw [Wng h];rfl
theorem Yyf(h:(Zb t 0).kind≠9):cndA F t S=(((ckT F (Zb t 0)).ex S).1,wantS ((ckT F (Zb t 0)).ex S).1 2 (Zb t 0).pos ((ckT F (Zb t 0)).ex S).2):=by unfold cndA condR;rw [Wmg h];rfl
theorem Vyd{T:CSt}(hs:Sc T)(hc:CanV T):∀ i,Sc (restA F t T i).2∧CanV (restA F t T i).2
 | 0=>⟨hs,hc⟩
 | i+1=>by
  obtain ⟨h1,h2⟩:=Vyd hs hc i;show Sc (bif decide ((Zb t (i+1)).kind=9) then (clnT (Zb t (i+1)),(restA F t T i).2) else (ckT F (Zb t (i+1))).st (restA F t T i).2).2∧CanV (bif decide ((Zb t (i+1)).kind=9) then (clnT (Zb t (i+1)),(restA F t T i).2) else (ckT F (Zb t (i+1))).st (restA F t T i).2).2;cases decide ((Zb t (i+1)).kind=9);exact ⟨((Qxa F _).st _ h1).sc h1,(Voc F _).st _ h1 h2⟩;exact ⟨h1,h2⟩
theorem Vzd{T:CSt}(h:Stp (sC t 1) S T):∀ i,i+1≤t.kids.length→Stp (sC t (i+1)) S (restA F t T i).2
 | 0,_=>h
 | i+1,hi=>by
  have ih:=Vzd h i O;have e:sC t (i+2)=sC t (i+1)+cN t (i+1):=rfl;rw [e];refine ih.trans ?_;show Stp (cN t (i+1)) _ (bif decide ((Zb t (i+1)).kind=9) then (clnT (Zb t (i+1)),(restA F t T i).2) else (ckT F (Zb t (i+1))).st (restA F t T i).2).2;cases decide ((Zb t (i+1)).kind=9);rw [Xra (show i+1<t.kids.length by omega)];exact (Uh F _).st _;exact (Stp.refl _).mono (Aia _)
theorem Jnc{T:CSt}{i:Nat}(h:(Zb t (i+1)).kind=9):restA F t T (i+1)=((restA F t T i).1++[clnT (Zb t (i+1))],(restA F t T i).2):=by rw [restA,Wng h];rfl
theorem Joc{T:CSt}{i:Nat}(h:(Zb t (i+1)).kind≠9):restA F t T (i+1)=((restA F t T i).1++[((ckT F (Zb t (i+1))).st (restA F t T i).2).1],((ckT F (Zb t (i+1))).st (restA F t T i).2).2):=by rw [restA,Wmg h];rfl
theorem Xie{T:CSt}(hs:Sc T)(hc:CanV T):∀ i,Vs T (retA F t T i).2
 | 0=>Vs.refl T
 | i+1=>by
  have h:=Xie hs hc i;exact (h.trans ((Qxa F _).ex _ (h.sc hs))).failu _ _ _
theorem Xje{T:CSt}(h:Stp 0 S T):∀ i,i≤t.kids.length→Stp (sC t i) S (retA F t T i).2
 | 0,_=>h
 | i+1,hi=>by
  have ih:=Xje h i O;have e:sC t (i+1)=sC t i+cN t i:=rfl;rw [e,Xra (show i<t.kids.length by omega)];exact (ih.trans ((Uh F _).ex _)).failu _ _ _
theorem Qgf(hs:Sc S)(hc:CanV S)(i:Nat):CanV (selA t (ckX F t) S i).2.2:=(Wxb (Wab F t) hs i).can hc
theorem Yzf{i:Nat}(h:i<t.kids.length):selA t (ckX F t) S (i+1)=((selA t (ckX F t) S i).1++[((ckT F (Zb t i)).cas (selA t (ckX F t) S i).2.1 (selA t (ckX F t) S i).2.2).1],(selA t (ckX F t) S i).2.1 && !decide ((Zb (Zb t i) 0).kind=9),((ckT F (Zb t i)).cas (selA t (ckX F t) S i).2.1 (selA t (ckX F t) S i).2.2).2):=by rw [selA,Wl h]
end
theorem Jyf{n:Nat}(h:n≤1)(b:Bool):(!Ala (decide ((n:Int)=1)) b)=(decide ((0:Int)<n) == b):=by
 have h2:n=0∨n=1:=by omega
 rcases h2 with q|q <;> subst q <;> cases b <;> rfl
theorem PK.res{F:Nd}{n0 b:Nat}{TB X:List Nat}{r0:List Ty}{S:CSt}{fv:Da}{ms mg mn mf:Nat}{pv:Nat→Da}{sv cv rv:Da}{vs:List Da}{sc:List (List Vr)}{w:Aa}(h:PK F n0 b TB X (some r0) S fv ms mg mn mf pv sv cv rv vs sc w):∃ k c,rv = .slice (some ⟨k,0,none⟩) (r0.length+1) c∧r0.length≤1000000000+r0.length∧RowAt w k (0+r0.length*2) (tyCells S.result):=by
 have hl:(r0++[S.result]).length=r0.length+1:=by rw [Ada];rfl
 have ro:w.ownsRow n0 24 2 rv (r0++[S.result]).length ((r0++[S.result]).flatMap tyCells):=h.ro;obtain ⟨k,c,hv,_,hR,_⟩:=Qva ro O;rw [hl] at hv;refine ⟨k,c,hv,O,?_⟩;have:=Jjb (f:=tyCells) (z:=2) Zwa hR (i:=r0.length) O;simpa using this
theorem ChM.to{F t:Nd}(H:ChM F t)(first:Bool){n0 b:Nat}{TB X:List Nat}{r0:List Ty}{S:CSt}{w:Aa}{v:Da}{N m0:Nat}(Z:List Nat)(h:PC F n0 b TB X (some r0) S w)(he:S.ee=0)(hc:CanV S)(hk:Kd w (fun k=>k<n0) t.kids v)(hb:Bd S N)(hn:N+count t≤1000000)(hZ:∀ j∈Z,j<w.heap.size)(hm:m0≤w.heap.size) :
 RetP PP 115 #[.pointer (some ⟨b,0,none⟩),ndV t v,.bool (!first)] w (fun r w'=>(∃ p c,r=ndV ((ckT F t).cas first S).1 (.slice p ((ckT F t).cas first S).1.kids.length c)∧m0≤w.heap.size∧KdX w.heap.size Z w' ((ckT F t).cas first S).1.kids (.slice p ((ckT F t).cas first S).1.kids.length c))∧((ckT F t).cas first S).2.ee=0∧PC F n0 b TB X (some r0) ((ckT F t).cas first S).2 w'∧GT (mutC X) n0 w w') (Bad n0 b X (S.scope+1) ((ckT F t).cas first S).2 w) :=
 (H first h he hc hk hb hn).mono (fun r w' hr=>by
 obtain ⟨h0,⟨p,c,e,k⟩,h1,h2⟩:=hr;exact ⟨⟨p,c,e,hm,KdN.x k hZ⟩,h0,h1,h2⟩) fun _ _ h=>h
theorem Xaf{F t:Nd}(hx:stmtB t=true)(KE:∀ i,i<t.kids.length→exprB (Zb t i)=true→CxM 1000000 F 113 (Zb t i) (ckT F (Zb t i)).ex)(KT:∀ i,i<t.kids.length→stmtB (Zb t i)=true→CxM 1000000 F 87 (Zb t i) (ckT F (Zb t i)).st)
    (KC : ∀ i, i < t.kids.length → Zya (Zb t i) = true → ChM F (Zb t i)) (KB : blockB t = true → CxM 1000000 F 116 t (ckT F t).blk) : CxM 1000000 F 87 t (ckT F t).st := by
  intro n0 b TB X r0 S w v N h he hc hkw hb hn
  obtain ⟨p, c, rfl, hcap, _⟩ := id hkw
  have hk0 := hkw
  have hlt := h.lt
  have htb := h.tb
  have hs := h.scs
  have htb2 : ∀ j ∈ TB, j < w.heap.size := fun j hj => htb.2 j (htb.1 j hj)
  have hcS : ∀ i, i < t.kids.length → sC t i + count (Zb t i) + 1 ≤ count t := fun i hi => by
    have h1 := Vsa t (i + 1)
    have h2 := Xra hi
    have h3 : sC t (i + 1) = sC t i + cN t i := rfl
    omega
  have hcX : ∀ i, i < t.kids.length → ckX F t i = ckT F (Zb t i) := fun i hi => Wl hi
  have hkl := Wn t
  have g := GT.refl (mutC X) n0 w
  refine Vi (m := 340) Tryz.func87 J J [(0, True, _), (1, True, _)] (Za J (Za J (Zr _))) ?_
  refine BM fun b3 _ ga _ g E => ?_
  have hp3 := h
  have h := Ui h
  have hk0 := Ui hk0
  refine AN fun b4 _ ga _ g E => ?_
  have hp4 := h
  have h := Ui h
  have hk0 := Ui hk0
  refine AU ?_
  refine CL (Jn t _ _ _) ?_
  rintro _ _ ⟨rfl, ga⟩
  refine RC fun g E => ?_
  have h := Uk h
  have hk0 := Uk hk0
  refine AN fun b5 _ ga _ g E => ?_
  have hp5 := h
  have h := Ui h
  have hk0 := Ui hk0
  refine AS fun wS1 ga Ca g E => ?_
  first | have h := h.keep ga Ca (by omega) (.inl rfl) | have h := h.keep ga Ca (by omega) (.inr ⟨by simp, fun hm => by have := htb2 _ hm; omega⟩)
  have hk0 := Ud hk0
  refine AU ?_
  refine Zz J (fun _ => Qmb (aq0) (aqc J aq0)) ?_
  have hO := Ypa [b3, b4, b5] w.heap.size wS1
  refine IF (fun h1 => ?_) fun h1 => ?_
  · replace h1 : t.kind = 6 := Wrg h1
    obtain ⟨_, hl, z0, z1⟩ := sh6 (sh6s h1 hx)
    have ef := st_6 (F := F) (S := S) h1
    have hc0 := hcS 0 (by omega)
    have hc1 := hcS 1 (by omega)
    have hx1 := hcX 1 (by omega)
    have hk0c := Wn (Zb t 0)
    obtain ⟨hpe, p_30, c_30, hcell, hkid⟩ := Yq hk0 (i := 0) (by omega)
    refine AU ?_
    refine Y2 J Jq J J (Ykc (Zb t 0) _ _ h he (by omega)) ((fun ch w' hz => Bad.pass hz (by rw [ef]; exact er_v0 (Xzb F t)) (Aaa _) g)) ?_
    rintro _ _ ⟨rfl, eL, ga⟩
    refine RC fun g E => ?_
    have h := Uk h
    have hk0 := Uk hk0
    have hO := Uk hO
    have hcell := Uk hcell
    have hkid := Uk hkid
    refine Xc J Xk J ?_
    intro b7 w7 N7
    have l7 := We N7 g.size
    have hp7 := h
    have hOp7 := hO
    have g := gtg g N7.g
    have h := h.grow (N7.g)
    have hk0 := hk0.grow (N7.g)
    have hO := hO.grow (N7.g)
    have hcell := hcell.grow (N7.g)
    have hkid := hkid.grow (N7.g)
    replace E := E.new N7
    have h := hp7.addX N7
    have hO := Ypa [b3, b4, b5, b7] w.heap.size w7
    refine AS fun _ ga Ca g E => ?_
    first | have h := h.keep ga Ca (by omega) (.inl rfl) | have h := h.keep ga Ca (by omega) (.inr ⟨by simp, fun hm => by have := htb2 _ hm; omega⟩)
    have hk0 := Ud hk0
    have hO := Ua hO
    have hkid := Ud hkid
    obtain ⟨hpe, p_36, c_36, hcell, hkid⟩ := Yq hk0 (i := 0) (by omega)
    refine AU ?_
    refine CL (Jo (Zb t 0) _ _ _ [b3, b4, b5, b7] hkid (by omega) (E.ltm (by simp [selB])) g.size) ?_
    rintro _ _ ⟨⟨p38, c38, rfl, q38, k38⟩, ga⟩
    refine RC fun g E => ?_
    have h := Uk h
    have hk0 := Uk hk0
    have hO := Uk hO
    have hcell := Uk hcell
    have hkid := Uk hkid
    refine Yc _ J Zc Zs (pqc J pq0) J J ?_
    intro b39 w39 N39
    have l39 := We N39 g.size
    have hp39 := h
    have hOp39 := hO
    have k38 := k38.new N39
    have B39 := N39.blk
    have g := gtg g N39.g
    replace E := E.grow N39.g
    have h := h.grow (N39.g)
    have hk0 := hk0.grow (N39.g)
    have hO := hO.grow (N39.g)
    have hcell := hcell.grow (N39.g)
    have hkid := hkid.grow (N39.g)
    have hOo := hO
    refine Xm J (Zu Yh (Zd J) (aqc J aq0) J) (Qf E.g1 hO (by simp) B39.row (Vt k38 q38 (by intro j hj; simp at hj ⊢ <;> omega) (fun j hj => by cases hj)) (by simp <;> omega) (by have := g.size; omega) ⟨by have := g.size; omega, fun hm => Aca _ (E.ltm (by simp [selB]) _ hm)⟩) ?_
    rintro v40 w40 ⟨rfl, a40, c40, z40, hO, hgA40, hgB40, BM40, BN40⟩
    refine ⟨nw1, ?_⟩
    replace E := E.keepX hgA40 hOo.ne (by simp [selB])
    replace E := E.s1 hgB40 BN40
    have g := Ve g hgA40 (fun k hk => hOo.ge k hk)
    have g := Yd g hgB40 (by omega)
    have h := h.keepO hgA40 hOo (by omega)
    have h := h.keep hgB40 BM40 (by omega) (.inl rfl)
    have hk0 := hk0.keep hgA40 (fun k hk _ e => by have := hOo.ge k e.symm; omega)
    have hk0 := hk0.keep hgB40 (fun k hk _ e => by injection e with e; omega)
    have hkid := hkid.keep hgA40 (fun k hk _ e => by have := hOo.ge k e.symm; omega)
    have hkid := hkid.keep hgB40 (fun k hk _ e => by injection e with e; omega)
    obtain ⟨hpe, p_43, c_43, hcell, hkid⟩ := Yq hk0 (i := 1) (by omega)
    refine IF (fun h2 => ?_) fun h2 => ?_
    · replace h2 : (Zb t 1).kind = 9 := Wrg h2
      have ef2 := ef.trans (Yvf h2 (Xhe z1 h2) eL)
      obtain ⟨hpe, p_50, c_50, hcell, hkid⟩ := Yq hk0 (i := 1) (by omega)
      refine AU ?_
      have hOlt := hO.lt
      refine CL (Jo (Zb t 1) _ _ _ [b3, b4, b5, b7] hkid (by omega) (E.ltm (by simp [selB])) g.size) ?_
      rintro _ _ ⟨⟨p52, c52, rfl, q52, k52⟩, ga⟩
      refine RC fun g E => ?_
      have h := Uk h
      have hO := Uk hO
      refine Yc _ J Zc Zs (pqc J pq0) J J ?_
      intro b53 w53 N53
      have l53 := We N53 g.size
      have hp53 := h
      have hOp53 := hO
      have k52 := k52.new N53
      have B53 := N53.blk
      have g := gtg g N53.g
      replace E := E.grow N53.g
      have h := h.grow (N53.g)
      have hO := hO.grow (N53.g)
      have hOo := hO
      refine Xm J (Zu Yh (Zd J) (aqc J aq0) J) (Qf E.g1 hO (by simp) B53.row (Vt k52 q52 (by intro j hj; simp at hj ⊢ <;> omega) (fun j hj => .inr (hOlt j hj))) (by simp <;> omega) (by have := g.size; omega) ⟨by have := g.size; omega, fun hm => Aca _ (E.ltm (by simp [selB]) _ hm)⟩) ?_
      rintro v54 w54 ⟨rfl, a54, c54, z54, hO, hgA54, hgB54, BM54, BN54⟩
      refine ⟨nw1, ?_⟩
      replace E := E.keepX hgA54 hOo.ne (by simp [selB])
      replace E := E.s1 hgB54 BN54
      have g := Ve g hgA54 (fun k hk => hOo.ge k hk)
      have g := Yd g hgB54 (by omega)
      have h := h.keepO hgA54 hOo (by omega)
      have h := h.keep hgB54 BM54 (by omega) (.inl rfl)
      refine AU ?_
      refine Y3 J Up J J J (Qza (clnT t) _ _ _ (ofF (Zb t 0)).1 h he hb (by omega)) ((fun ch w' hz => Bad.pass hz (by rw [ef2]; exact Er.refl _) (by first | exact Aaa _ | (rw [hsT]; exact Aaa _)) g)) ?_
      rintro v68 w68 ⟨he68, rfl, h, g68⟩
      refine ⟨nw1, ?_⟩
      have g := gtw g g68
      replace E := E.gtx g68
      have hO := hO.gt g68 rfl
      refine AS fun _ ga Ca g E => ?_
      first | have h := h.keep ga Ca (by omega) (.inl rfl) | have h := h.keep ga Ca (by omega) (.inr ⟨by simp, fun hm => by have := htb2 _ hm; omega⟩)
      have hO := Ua hO
      refine RTN ?_
      rw [ef2]; exact ⟨he68, Xp (t := dclT t [_, _] _) rfl hO.kd, h.sub htb.1 (by intro j hj; simp [hj]), g⟩
    replace h2 : (Zb t 1).kind ≠ 9 := Wsg h2
    have z1 := z1.resolve_left fun q => h2 (Jw q).1
    have ef1 := ef.trans (Ywf h2 eL hx1)
    refine Xh (rowR none) [3, 3, 3, 0, 3, 0, 0, 2, 1, 2] [0, 0, 0, 4, 12, 28, 0, 126, 254, 511] mix (by kernel_rfl) [0, 1, 2, 3, 4, 5, 6, 7, 8, 9] J ?_
    have g := gtd g
    replace E := E.dr
    have h := h.grow (G.drew _)
    have hk0 := hk0.grow (G.drew _)
    have hO := hO.grow (G.drew _)
    have hcell := hcell.grow (G.drew _)
    have hkid := hkid.grow (G.drew _)
    refine Zx 0 J J (fun _ => Zw (Zd J)) (Zx 1 J J (fun _ => Zw (Zd J)) (Zx 2 J J (fun _ => Zi Zh (Zd J)) (Yi 3 J J (fun w1 hx => Zq Zg (Zd J) (fun _ => (E.g3.keep hx (fun h => nomatch h)).at_ J)) (?_))))
    obtain ⟨hpe, p_59, c_59, hcell, hkid⟩ := Yq hk0 (i := 1) (by omega)
    refine Zx 4 J J (fun _ => Yv Zc (Zd J) Xa (fun _ => by omega) (fun _ => hpe)) (Yi 5 J J (fun w1 hx => Zo Zf (Zd J) J (fun _ => hcell.kn hx)) (Yi 6 J J (fun w1 hx => Zo Zm (Zd J) J (fun _ => (E.g0.keep hx (fun h => nomatch h)).row)) (Zt 7 J J ?_)))
    refine Xb (L' := [8, 9]) [3, 3, 3, 0, 3, 0, 0, 2, 1, 2] J J J J ?_
    have hOlt := hO.lt
    refine Y3 J Qa J J J (Ygb (KE 1 (by omega) z1) (Vua F _) (ofF (Zb t 0)).1 [b3, b4, b5, b7] h he hc hkid hb (by omega) (E.ltm (by simp [selB])) g.size) ((fun ch w' hz => Bad.pass hz (by rw [ef1]; exact (Er.refl _).decl _ _ _) (Aaa _) g)) ?_
    rintro v62 w62 ⟨⟨p62, c62, rfl, q62, k62⟩, he62, eW, h, g62⟩
    refine ⟨nw1, ?_⟩
    have g := gtw g g62
    replace E := E.gtx g62
    have hO := hO.gt g62 rfl
    rw [eW] at he62
    have ef2 := ef1
    rw [eW] at ef2
    have he := he62
    have hsT := ((Uh F (Zb t 1)).ex S).scope
    have hb := ((Uh F (Zb t 1)).ex S).bd _ hb
    refine Xx ?_
    refine Zt 8 J J ?_
    refine Zn (L' := [9]) [3, 3, 3, 0, 3, 0, 0, 2, 1, 2] J J J ?_
    refine Yc _ J Zc Zs (pqc J pq0) J J ?_
    intro b63 w63 N63
    have l63 := We N63 g.size
    have hp63 := h
    have hOp63 := hO
    have k62 := k62.new N63
    have B63 := N63.blk
    have g := gtg g N63.g
    replace E := E.grow N63.g
    have h := h.grow (N63.g)
    have hO := hO.grow (N63.g)
    refine Zy ((N63.g).only _) ?_
    refine Zt 9 J J ?_
    refine Xb (L' := []) [3, 3, 3, 0, 3, 0, 0, 2, 1, 2] J J J J ?_
    have hOo := hO
    refine Xm J (Zu Yh (Zd J) (aqc J aq0) J) (Qf E.g1 hO (by simp) B63.row (Vt k62 q62 (by intro j hj; simp at hj ⊢ <;> omega) (fun j hj => .inr (hOlt j hj))) (by simp <;> omega) (by have := g.size; omega) ⟨by have := g.size; omega, fun hm => Aca _ (E.ltm (by simp [selB]) _ hm)⟩) ?_
    rintro v64 w64 ⟨rfl, a64, c64, z64, hO, hgA64, hgB64, BM64, BN64⟩
    refine ⟨nw1, ?_⟩
    replace E := E.keepX hgA64 hOo.ne (by simp [selB])
    replace E := E.s1 hgB64 BN64
    have g := Ve g hgA64 (fun k hk => hOo.ge k hk)
    have g := Yd g hgB64 (by omega)
    have h := h.keepO hgA64 hOo (by omega)
    have h := h.keep hgB64 BM64 (by omega) (.inl rfl)
    refine Xx ?_
    refine TK [0, 4, 5, 7] ?_
    refine AU ?_
    refine Y3 J Up J J J (Qza (clnT t) _ _ _ (ofF (Zb t 0)).1 h he hb (by omega)) ((fun ch w' hz => Bad.pass hz (by rw [ef2]; exact Er.refl _) (by first | exact Aaa _ | (rw [hsT]; exact Aaa _)) g)) ?_
    rintro v68 w68 ⟨he68, rfl, h, g68⟩
    refine ⟨nw1, ?_⟩
    have g := gtw g g68
    replace E := E.gtx g68
    have hO := hO.gt g68 rfl
    refine AS fun _ ga Ca g E => ?_
    first | have h := h.keep ga Ca (by omega) (.inl rfl) | have h := h.keep ga Ca (by omega) (.inr ⟨by simp, fun hm => by have := htb2 _ hm; omega⟩)
    have hO := Ua hO
    refine RTN ?_
    rw [ef2]; exact ⟨he68, Xp (t := dclT t [_, _] _) rfl hO.kd, h.sub htb.1 (by intro j hj; simp [hj]), g⟩
  replace h1 : t.kind ≠ 6 := Wsg h1
  refine IF (fun h3 => ?_) fun h3 => ?_
  · replace h3 : t.kind = 11 := Wrg h3
    obtain ⟨_, hl, z0⟩ := sh11 h3 hx
    have ef := st_11 (F := F) (S := S) h3
    have hc0 := hcS 0 (by omega)
    have hx0 := hcX 0 (by omega)
    unfold defR at ef
    dsimp only at ef
    rw [hx0] at ef
    have hsT := ((Uh F (Zb t 0)).ex S).scope
    obtain ⟨hpe, p_74, c_74, hcell, hkid⟩ := Yq hk0 (i := 0) (by omega)
    refine AU ?_
    refine Y2 J Xt J J (CxM.to (KE 0 (by omega) z0) [b3, b4, b5] h he hc hkid hb (by omega) (E.ltm (by simp [selB])) g.size) ((fun ch w' hz => Bad.pass hz (by rw [ef]; exact ((Er.refl _).failu _ _ _).decl _ _ _) (Aaa _) g)) ?_
    rintro v76 w76 ⟨⟨p76, c76, rfl, q76, k76⟩, he76, h, g76⟩
    refine ⟨nw1, ?_⟩
    have g := gtw g g76
    replace E := E.gtx g76
    have hO := hO.gt g76 rfl
    have hkid := hkid.gt g76 (fun k h => h)
    have hk0 := hk0.gt g76 (fun k h => h)
    have hb := ((Uh F (Zb t 0)).ex S).bd _ hb
    refine Xc J Zs J ?_
    intro b8 w8 N8
    have l8 := We N8 g.size
    have hp8 := h
    have hOp8 := hO
    have k76 := k76.new N8
    have g := gtg g N8.g
    have h := h.grow (N8.g)
    have hk0 := hk0.grow (N8.g)
    have hO := hO.grow (N8.g)
    have hkid := hkid.grow (N8.g)
    replace E := E.new N8
    have hO := Ypa [b3, b4, b5, b8] w.heap.size w8
    refine AS fun _ ga Ca g E => ?_
    first | have h := h.keep ga Ca (by omega) (.inl rfl) | have h := h.keep ga Ca (by omega) (.inr ⟨by simp, fun hm => by have := htb2 _ hm; omega⟩)
    have hk0 := Ud hk0
    have hO := Ua hO
    have hkid := Ud hkid
    have k76 := k76.keep ga (by first | exact .inl (by omega) | exact .inr (by simp))
    refine AU ?_
    refine Xh (rowR none) [3, 0, 1, 3, 0, 3, 3, 0, 1] [0, 1, 3, 0, 8, 24, 56, 120, 255] mix (by kernel_rfl) [0, 1, 2, 3, 4, 5, 6, 7, 8] J ?_
    have g := gtd g
    replace E := E.dr
    have h := h.grow (G.drew _)
    have hk0 := hk0.grow (G.drew _)
    have hO := hO.grow (G.drew _)
    have hcell := hcell.grow (G.drew _)
    have hkid := hkid.grow (G.drew _)
    have k76 := k76.grow (G.drew _)
    refine Zx 0 J J (fun _ => Zi Yk (Zd J)) (Yi 1 J J (fun w1 hx => Zo Zm (Zd J) J (fun _ => (E.g0.keep hx (fun h => nomatch h)).row.part 5 2)) (Zx 3 J J (fun _ => Zi Zh (Zd J)) (Yi 4 J J (fun w1 hx => Zq Zg (Zd J) (fun _ => (E.g3.keep hx (fun h => nomatch h)).at_ J)) (?_))))
    obtain ⟨hpe, p_82, c_82, hcell, hkid⟩ := Yq hk0 (i := 0) (by omega)
    refine Zx 5 J J (fun _ => Yv Zc (Zd J) Xa (fun _ => by omega) (fun _ => hpe)) (Zx 6 J J (fun _ => Zi Xz (Zd J)) (Yi 7 J J (fun w1 hx => Zq Yf (Zd J) (fun _ => (hcell.kn hx).one (i := 3) J)) (Zt 2 J J ?_)))
    refine Zn (L' := [8]) [3, 0, 1, 3, 0, 3, 3, 0, 1] J J J ?_
    refine CP (Xza ((ckT F (Zb t 0)).ex S).1.ty _ h.laid.hL h.laid.hb) (fun w79 g79 => ?_)
    have g := gtg g g79
    replace E := E.grow g79
    have h := h.grow (g79)
    have hO := hO.grow (g79)
    have k76 := k76.grow (g79)
    refine Zy ((g79).only _) ?_
    refine Zt 8 J J ?_
    refine Zn (L' := []) [3, 0, 1, 3, 0, 3, 3, 0, 1] J J J ?_
    refine Y3 J Ye J J J (Vf _ _ _ _) ((fun ch w' hz => Ul h he76 (by decide) (by rw [ef]; exact (Er.refl _).decl _ _ _) hz g (by rw [hsT]; exact Aaa _))) ?_
    rintro v85 w85 ⟨rfl, hq85, g85⟩
    refine ⟨fun _ => g85, ?_⟩
    have g := gtg g g85
    replace E := E.grow g85
    have h := h.grow (g85)
    have hO := hO.grow (g85)
    have k76 := k76.grow (g85)
    rw [hq85] at ef
    refine Zy ((g85).only _) ?_
    refine TK [0, 4, 5, 6, 8] ?_
    refine AU ?_
    refine Yc _ J Zc Zs (pqc J pq0) J J ?_
    intro b88 w88 N88
    have l88 := We N88 g.size
    have hp88 := h
    have hOp88 := hO
    have k76 := k76.new N88
    have B88 := N88.blk
    have g := gtg g N88.g
    replace E := E.grow N88.g
    have h := h.grow (N88.g)
    have hO := hO.grow (N88.g)
    have hOo := hO
    refine Xm J (Zu Yh (Zd J) (aqc J aq0) J) (Qf E.g1 hO (by simp) B88.row (Vt k76 q76 (by intro j hj; simp at hj ⊢ <;> omega) (fun j hj => by cases hj)) (by simp <;> omega) (by have := g.size; omega) ⟨by have := g.size; omega, fun hm => Aca _ (E.ltm (by simp [selB]) _ hm)⟩) ?_
    rintro v89 w89 ⟨rfl, a89, c89, z89, hO, hgA89, hgB89, BM89, BN89⟩
    refine ⟨nw1, ?_⟩
    replace E := E.keepX hgA89 hOo.ne (by simp [selB])
    replace E := E.s1 hgB89 BN89
    have g := Ve g hgA89 (fun k hk => hOo.ge k hk)
    have g := Yd g hgB89 (by omega)
    have h := h.keepO hgA89 hOo (by omega)
    have h := h.keep hgB89 BM89 (by omega) (.inl rfl)
    refine AU ?_
    refine Y3 J Up J J J (Qza (clnT t) _ _ _ ((ckT F (Zb t 0)).ex S).1.ty h he76 hb (by omega)) ((fun ch w' hz => Bad.pass hz (by rw [ef]; exact Er.refl _) (by rw [hsT]; exact Aaa _) g)) ?_
    rintro v94 w94 ⟨he94, rfl, h, g94⟩
    refine ⟨nw1, ?_⟩
    have g := gtw g g94
    replace E := E.gtx g94
    have hO := hO.gt g94 rfl
    refine AS fun _ ga Ca g E => ?_
    first | have h := h.keep ga Ca (by omega) (.inl rfl) | have h := h.keep ga Ca (by omega) (.inr ⟨by simp, fun hm => by have := htb2 _ hm; omega⟩)
    have hO := Ua hO
    refine RTN ?_
    rw [ef]; exact ⟨he94, Xp (t := dclT t [_] _) rfl hO.kd, h, g⟩
  replace h3 : t.kind ≠ 11 := Wsg h3
  refine IF (fun h4 => ?_) fun h4 => ?_
  · replace h4 : t.kind = 12 := Wrg h4
    obtain ⟨hl, z0, z1⟩ := sh12 h4 hx
    have ef := st_12 (F := F) (S := S) h4
    have hc0 := hcS 0 (by omega)
    have hc1 := hcS 1 (by omega)
    have hs1 : sC t 1 = 0 + cN t 0 := rfl
    have hs2 : cN t 0 = count (Zb t 0) := Xra (by omega)
    have hx0 := hcX 0 (by omega)
    have hx1 := hcX 1 (by omega)
    unfold asgR at ef
    dsimp only at ef
    rw [hx0, hx1] at ef
    have hst := (Uh F (Zb t 0)).ex S
    have hcT := ((Qxa F (Zb t 0)).ex S hs).can hc
    obtain ⟨hpe, p_100, c_100, hcell, hkid⟩ := Yq hk0 (i := 0) (by omega)
    refine AU ?_
    refine Y2 J Xt J J (CxM.to (KE 0 (by omega) z0) [b3, b4, b5] h he hc hkid hb (by omega) (E.ltm (by simp [selB])) g.size) ((fun ch w' hz => Bad.pass hz (by rw [ef]; exact (((Er.refl _).failu _ _ _).trans ((Uh F (Zb t 1)).ex _).e).failu _ _ _) (Aaa _) g)) ?_
    rintro v102 w102 ⟨⟨p102, c102, rfl, q102, k102⟩, he102, h, g102⟩
    refine ⟨nw1, ?_⟩
    have g := gtw g g102
    replace E := E.gtx g102
    have hO := hO.gt g102 rfl
    have hkid := hkid.gt g102 (fun k h => h)
    have hk0 := hk0.gt g102 (fun k h => h)
    have hb := hst.bd _ hb
    refine Xc J Zs J ?_
    intro b9 w9 N9
    have l9 := We N9 g.size
    have hp9 := h
    have hOp9 := hO
    have k102 := k102.new N9
    have g := gtg g N9.g
    have h := h.grow (N9.g)
    have hk0 := hk0.grow (N9.g)
    have hO := hO.grow (N9.g)
    have hkid := hkid.grow (N9.g)
    replace E := E.new N9
    have hO := Ypa [b3, b4, b5, b9] w.heap.size w9
    refine AS fun _ ga Ca g E => ?_
    first | have h := h.keep ga Ca (by omega) (.inl rfl) | have h := h.keep ga Ca (by omega) (.inr ⟨by simp, fun hm => by have := htb2 _ hm; omega⟩)
    have hk0 := Ud hk0
    have hO := Ua hO
    have hkid := Ud hkid
    have k102 := k102.keep ga (by first | exact .inl (by omega) | exact .inr (by simp))
    refine AU ?_
    obtain ⟨hpe, p_124, c_124, hcell, hkid⟩ := Yq hk0 (i := 0) (by omega)
    refine AU ?_
    refine Y3 J Ye J J J (Vf _ _ _ _) ((fun ch w' hz => Ul h he102 (by decide) (by rw [ef, ← Ytf]; exact ((Uh F (Zb t 1)).ex _).e.failu _ _ _) hz g (by rw [hst.scope]; exact Aaa _))) ?_
    rintro _ _ ⟨rfl, hq127, ga⟩
    refine RC fun g E => ?_
    have h := Uk h
    have hk0 := Uk hk0
    have hO := Uk hO
    have hcell := Uk hcell
    have hkid := Uk hkid
    have k102 := Uk k102
    rw [← Ytf, hq127] at ef
    replace ef : (ckT F t).st S = (annT t [((ckT F (Zb t 0)).ex S).1, ((ckT F (Zb t 1)).ex ((ckT F (Zb t 0)).ex S).2).1] ty0, failU (Us ((ckT F (Zb t 0)).ex S).1.ty ((ckT F (Zb t 1)).ex ((ckT F (Zb t 0)).ex S).2).1.ty) (Zb t 1).pos 7 ((ckT F (Zb t 1)).ex ((ckT F (Zb t 0)).ex S).2).2) := ef
    refine AU ?_
    refine Yc _ J Zc Zs (pqc J pq0) J J ?_
    intro b130 w130 N130
    have l130 := We N130 g.size
    have hp130 := h
    have hOp130 := hO
    have k102 := k102.new N130
    have B130 := N130.blk
    have g := gtg g N130.g
    replace E := E.grow N130.g
    have h := h.grow (N130.g)
    have hk0 := hk0.grow (N130.g)
    have hO := hO.grow (N130.g)
    have hcell := hcell.grow (N130.g)
    have hkid := hkid.grow (N130.g)
    have hOo := hO
    refine Xm J (Zu Yh (Zd J) (aqc J aq0) J) (Qf E.g1 hO (by simp) B130.row (Vt k102 q102 (by intro j hj; simp at hj ⊢ <;> omega) (fun j hj => by cases hj)) (by simp <;> omega) (by have := g.size; omega) ⟨by have := g.size; omega, fun hm => Aca _ (E.ltm (by simp [selB]) _ hm)⟩) ?_
    rintro v131 w131 ⟨rfl, a131, c131, z131, hO, hgA131, hgB131, BM131, BN131⟩
    refine ⟨nw1, ?_⟩
    replace E := E.keepX hgA131 hOo.ne (by simp [selB])
    replace E := E.s1 hgB131 BN131
    have g := Ve g hgA131 (fun k hk => hOo.ge k hk)
    have g := Yd g hgB131 (by omega)
    have h := h.keepO hgA131 hOo (by omega)
    have h := h.keep hgB131 BM131 (by omega) (.inl rfl)
    have hk0 := hk0.keep hgA131 (fun k hk _ e => by have := hOo.ge k e.symm; omega)
    have hk0 := hk0.keep hgB131 (fun k hk _ e => by injection e with e; omega)
    have hkid := hkid.keep hgA131 (fun k hk _ e => by have := hOo.ge k e.symm; omega)
    have hkid := hkid.keep hgB131 (fun k hk _ e => by injection e with e; omega)
    refine AU ?_
    refine Xh (rowR none) [3, 3, 3, 0, 3, 0, 3, 0, 2, 1, 2] [0, 0, 0, 4, 12, 28, 0, 64, 254, 510, 1023] mix (by kernel_rfl) [0, 1, 2, 3, 4, 5, 6, 7, 8, 9, 10] J ?_
    have g := gtd g
    replace E := E.dr
    have h := h.grow (G.drew _)
    have hk0 := hk0.grow (G.drew _)
    have hO := hO.grow (G.drew _)
    have hcell := hcell.grow (G.drew _)
    have hkid := hkid.grow (G.drew _)
    refine Zx 0 J J (fun _ => Zw (Zd J)) (Zx 1 J J (fun _ => Zw (Zd J)) (Zx 2 J J (fun _ => Zi Zh (Zd J)) (Yi 3 J J (fun w1 hx => Zq Zg (Zd J) (fun _ => (E.g3.keep hx (fun h => nomatch h)).at_ J)) (?_))))
    obtain ⟨hpe, p_136, c_136, hcell, hkid⟩ := Yq hk0 (i := 1) (by omega)
    refine Zx 4 J J (fun _ => Yv Zc (Zd J) Xa (fun _ => by omega) (fun _ => hpe)) (Yi 5 J J (fun w1 hx => Zo Zf (Zd J) J (fun _ => hcell.kn hx)) (Zx 6 J J (fun _ => Zi Yk (Zd J)) (Yi 7 J J (fun w1 hx => Zo Zm (Zd J) J (fun _ => (E.g0.keep hx (fun h => nomatch h)).row.part 5 2)) (Zt 8 J J ?_))))
    refine Xb (L' := [9, 10]) [3, 3, 3, 0, 3, 0, 3, 0, 2, 1, 2] J J J J ?_
    have hOlt := hO.lt
    refine Y3 J Qa J J J (Ygb (KE 1 (by omega) z1) (Vua F _) ((ckT F (Zb t 0)).ex S).1.ty [b3, b4, b5, b9] h he102 hcT hkid hb (by omega) (E.ltm (by simp [selB])) g.size) ((fun ch w' hz => Bad.pass hz (by rw [ef]; exact Er.refl _) (by rw [hst.scope]; exact Aaa _) g)) ?_
    rintro v140 w140 ⟨⟨p140, c140, rfl, q140, k140⟩, he140, eW, h, g140⟩
    refine ⟨nw1, ?_⟩
    have g := gtw g g140
    replace E := E.gtx g140
    have hO := hO.gt g140 rfl
    rw [eW] at he140 ef
    refine Xx ?_
    refine Zt 9 J J ?_
    refine Zn (L' := [10]) [3, 3, 3, 0, 3, 0, 3, 0, 2, 1, 2] J J J ?_
    refine Yc _ J Zc Zs (pqc J pq0) J J ?_
    intro b141 w141 N141
    have l141 := We N141 g.size
    have hp141 := h
    have hOp141 := hO
    have k140 := k140.new N141
    have B141 := N141.blk
    have g := gtg g N141.g
    replace E := E.grow N141.g
    have h := h.grow (N141.g)
    have hO := hO.grow (N141.g)
    refine Zy ((N141.g).only _) ?_
    refine Zt 10 J J ?_
    refine Xb (L' := []) [3, 3, 3, 0, 3, 0, 3, 0, 2, 1, 2] J J J J ?_
    have hOo := hO
    refine Xm J (Zu Yh (Zd J) (aqc J aq0) J) (Qf E.g1 hO (by simp) B141.row (Vt k140 q140 (by intro j hj; simp at hj ⊢ <;> omega) (fun j hj => .inr (hOlt j hj))) (by simp <;> omega) (by have := g.size; omega) ⟨by have := g.size; omega, fun hm => Aca _ (E.ltm (by simp [selB]) _ hm)⟩) ?_
    rintro v142 w142 ⟨rfl, a142, c142, z142, hO, hgA142, hgB142, BM142, BN142⟩
    refine ⟨nw1, ?_⟩
    replace E := E.keepX hgA142 hOo.ne (by simp [selB])
    replace E := E.s1 hgB142 BN142
    have g := Ve g hgA142 (fun k hk => hOo.ge k hk)
    have g := Yd g hgB142 (by omega)
    have h := h.keepO hgA142 hOo (by omega)
    have h := h.keep hgB142 BM142 (by omega) (.inl rfl)
    refine Xx ?_
    refine TK [4, 5] ?_
    refine AS fun _ ga Ca g E => ?_
    first | have h := h.keep ga Ca (by omega) (.inl rfl) | have h := h.keep ga Ca (by omega) (.inr ⟨by simp, fun hm => by have := htb2 _ hm; omega⟩)
    have hO := Ua hO
    refine RTN ?_
    rw [ef]; exact ⟨he140, Xp (t := annT t [_, _] ty0) rfl hO.kd, h, g⟩
  replace h4 : t.kind ≠ 12 := Wsg h4
  refine AU ?_
  refine' OR [0, 3, 4, 5, 6, 24] (fun hb5 => ?y5) (kq ?n5)
  case y5 =>
   refine AU ?_
   refine' OR [0, 3, 4, 5, 6, 24] (fun hb6 => ?y6) knr
   case y6 =>
    refine AU ?_
    refine SK [143, 0, 3, 4, 5, 6, 24] ?_
    exact Ze knr
  case n5 =>
   refine IF (fun h7 => ?_) fun h7 => ?_
   · replace h7 : t.kind = 13 ∨ t.kind = 14 ∨ t.kind = 15 := by simpa [or_assoc] using h7
     obtain ⟨hl, z0⟩ : t.kids.length = 1 ∧ exprB (Zb t 0) = true := by
       rcases h7 with q | q | q
       · exact sh13 q hx
       · exact sh14 q hx
       · exact sh15 q hx
     have ef := st_13 (F := F) (S := S) h7
     have hc0 := hcS 0 (by omega)
     rw [hcX 0 (by omega)] at ef
     obtain ⟨hpe, p_151, c_151, hcell, hkid⟩ := Yq hk0 (i := 0) (by omega)
     refine AU ?_
     refine Y2 J Xt J J (CxM.to (KE 0 (by omega) z0) [b3, b4, b5] h he hc hkid hb (by omega) (E.ltm (by simp [selB])) g.size) ((fun ch w' hz => Bad.pass hz (by rw [ef]; exact Er.refl _) (Aaa _) g)) ?_
     rintro v153 w153 ⟨⟨p153, c153, rfl, q153, k153⟩, he153, h, g153⟩
     refine ⟨nw1, ?_⟩
     have g := gtw g g153
     replace E := E.gtx g153
     have hO := hO.gt g153 rfl
     refine Yc _ J Zc Zs (pqc J pq0) J J ?_
     intro b154 w154 N154
     have l154 := We N154 g.size
     have hp154 := h
     have hOp154 := hO
     have k153 := k153.new N154
     have B154 := N154.blk
     have g := gtg g N154.g
     replace E := E.grow N154.g
     have h := h.grow (N154.g)
     have hO := hO.grow (N154.g)
     have hOo := hO
     refine Xm J (Zu Yh (Zd J) (aqc J aq0) J) (Qf E.g0 hO (by simp) B154.row (Vt k153 q153 (by intro j hj; simp at hj ⊢ <;> omega) (fun j hj => by cases hj)) (by simp <;> omega) (by have := g.size; omega) ⟨by have := g.size; omega, fun hm => Aca _ (E.ltm (by simp [selB]) _ hm)⟩) ?_
     rintro v155 w155 ⟨rfl, a155, c155, z155, hO, hgA155, hgB155, BM155, BN155⟩
     refine ⟨nw1, ?_⟩
     replace E := E.keepX hgA155 hOo.ne (by simp [selB])
     replace E := E.s0 hgB155 BN155
     have g := Ve g hgA155 (fun k hk => hOo.ge k hk)
     have g := Yd g hgB155 (by omega)
     have h := h.keepO hgA155 hOo (by omega)
     have h := h.keep hgB155 BM155 (by omega) (.inl rfl)
     refine AS fun _ ga Ca g E => ?_
     first | have h := h.keep ga Ca (by omega) (.inl rfl) | have h := h.keep ga Ca (by omega) (.inr ⟨by simp, fun hm => by have := htb2 _ hm; omega⟩)
     have hO := Ua hO
     refine RTN ?_
     rw [ef]; exact ⟨he153, Xp (t := annT t [_] ty0) rfl hO.kd, h, g⟩
   simp only [Bool.or_eq_false_iff, Wqg] at h7
   refine IF (fun h8 => ?_) fun h8 => ?_
   · replace h8 : t.kind = 16 := Wrg h8
     obtain ⟨hl, z0, z1⟩ := sh16 h8 hx
     have ef := st_16 (F := F) (S := S) h8
     have hc0 := hcS 0 (by omega)
     have hc1 := hcS 1 (by omega)
     have hs1 : sC t 1 = 0 + cN t 0 := rfl
     have hs2 : cN t 0 = count (Zb t 0) := Xra (by omega)
     rw [hcX 0 (by omega), hcX 1 (by omega)] at ef
     have hst := (Uh F (Zb t 0)).ex S
     have hcT := ((Qxa F (Zb t 0)).ex S hs).can hc
     refine AU ?_
     refine Xh (rowR none) [3, 3, 3, 0, 3, 0, 0, 2, 1, 2] [0, 0, 0, 4, 12, 28, 0, 126, 254, 511] mix (by kernel_rfl) [0, 1, 2, 3, 4, 5, 6, 7, 8, 9] J ?_
     have g := gtd g
     replace E := E.dr
     have h := h.grow (G.drew _)
     have hk0 := hk0.grow (G.drew _)
     have hO := hO.grow (G.drew _)
     refine Zx 0 J J (fun _ => Zw (Zd J)) (Zx 1 J J (fun _ => Zw (Zd J)) (Zx 2 J J (fun _ => Zi Zh (Zd J)) (Yi 3 J J (fun w1 hx => Zq Zg (Zd J) (fun _ => (E.g2.keep hx (fun h => nomatch h)).at_ J)) (?_))))
     obtain ⟨hpe, p_162, c_162, hcell, hkid⟩ := Yq hk0 (i := 0) (by omega)
     refine Zx 4 J J (fun _ => Yv Zc (Zd J) Xa (fun _ => by omega) (fun _ => hpe)) (Yi 5 J J (fun w1 hx => Zo Zf (Zd J) J (fun _ => hcell.kn hx)) (Yi 6 J J (fun w1 hx => Zo Zm Jea J (fun _ => h.laid.hC.2.2.2.2.1.kn hx)) (Zt 7 J J ?_)))
     refine Xb (L' := [8, 9]) [3, 3, 3, 0, 3, 0, 0, 2, 1, 2] J J J J ?_
     refine Y3 J Xj J J J (Qs (k := 6) (KE 0 (by omega) z0) (Vua F _) (by decide) [b3, b4, b5] h he hc hkid hb (by omega) (E.ltm (by simp [selB])) g.size) ((fun ch w' hz => Bad.pass hz (by rw [ef]; exact ((Uh F (Zb t 1)).ex _).e.failu _ _ _) (Aaa _) g)) ?_
     rintro v165 w165 ⟨⟨p165, c165, rfl, q165, k165⟩, he165, eW, h, g165⟩
     refine ⟨nw1, ?_⟩
     have g := gtw g g165
     replace E := E.gtx g165
     have hO := hO.gt g165 rfl
     have hkid := hkid.gt g165 (fun k h => h)
     have hk0 := hk0.gt g165 (fun k h => h)
     rw [eW] at he165 ef
     have hb := hst.bd _ hb
     refine Xx ?_
     refine Zt 8 J J ?_
     refine Zn (L' := [9]) [3, 3, 3, 0, 3, 0, 0, 2, 1, 2] J J J ?_
     refine Yc _ J Zc Zs (pqc J pq0) J J ?_
     intro b166 w166 N166
     have l166 := We N166 g.size
     have hp166 := h
     have hOp166 := hO
     have k165 := k165.new N166
     have B166 := N166.blk
     have g := gtg g N166.g
     replace E := E.grow N166.g
     have h := h.grow (N166.g)
     have hk0 := hk0.grow (N166.g)
     have hO := hO.grow (N166.g)
     have hkid := hkid.grow (N166.g)
     refine Zy ((N166.g).only _) ?_
     refine Zt 9 J J ?_
     refine Xb (L' := []) [3, 3, 3, 0, 3, 0, 0, 2, 1, 2] J J J J ?_
     have hOo := hO
     refine Xm J (Zu Yh (Zd J) (aqc J aq0) J) (Qf E.g0 hO (by simp) B166.row (Vt k165 q165 (by intro j hj; simp at hj ⊢ <;> omega) (fun j hj => by cases hj)) (by simp <;> omega) (by have := g.size; omega) ⟨by have := g.size; omega, fun hm => Aca _ (E.ltm (by simp [selB]) _ hm)⟩) ?_
     rintro v167 w167 ⟨rfl, a167, c167, z167, hO, hgA167, hgB167, BM167, BN167⟩
     refine ⟨nw1, ?_⟩
     replace E := E.keepX hgA167 hOo.ne (by simp [selB])
     replace E := E.s0 hgB167 BN167
     have g := Ve g hgA167 (fun k hk => hOo.ge k hk)
     have g := Yd g hgB167 (by omega)
     have h := h.keepO hgA167 hOo (by omega)
     have h := h.keep hgB167 BM167 (by omega) (.inl rfl)
     have hk0 := hk0.keep hgA167 (fun k hk _ e => by have := hOo.ge k e.symm; omega)
     have hk0 := hk0.keep hgB167 (fun k hk _ e => by injection e with e; omega)
     have hkid := hkid.keep hgA167 (fun k hk _ e => by have := hOo.ge k e.symm; omega)
     have hkid := hkid.keep hgB167 (fun k hk _ e => by injection e with e; omega)
     refine Xx ?_
     refine TK [0, 3, 4, 5, 6] ?_
     refine AU ?_
     refine Xh (rowR none) [3, 3, 3, 0, 3, 0, 0, 2, 1, 2] [0, 0, 0, 4, 12, 28, 0, 126, 254, 511] mix (by kernel_rfl) [0, 1, 2, 3, 4, 5, 6, 7, 8, 9] J ?_
     have g := gtd g
     replace E := E.dr
     have h := h.grow (G.drew _)
     have hk0 := hk0.grow (G.drew _)
     have hO := hO.grow (G.drew _)
     have hcell := hcell.grow (G.drew _)
     have hkid := hkid.grow (G.drew _)
     refine Zx 0 J J (fun _ => Zw (Zd J)) (Zx 1 J J (fun _ => Zw (Zd J)) (Zx 2 J J (fun _ => Zi Zh (Zd J)) (Yi 3 J J (fun w1 hx => Zq Zg (Zd J) (fun _ => (E.g2.keep hx (fun h => nomatch h)).at_ J)) (?_))))
     obtain ⟨hpe, p_172, c_172, hcell, hkid⟩ := Yq hk0 (i := 1) (by omega)
     refine Zx 4 J J (fun _ => Yv Zc (Zd J) Xa (fun _ => by omega) (fun _ => hpe)) (Yi 5 J J (fun w1 hx => Zo Zf (Zd J) J (fun _ => hcell.kn hx)) (Yi 6 J J (fun w1 hx => Zo Zm Jea J (fun _ => h.laid.hC.1.kn hx)) (Zt 7 J J ?_)))
     refine Xb (L' := [8, 9]) [3, 3, 3, 0, 3, 0, 0, 2, 1, 2] J J J J ?_
     have hOlt := hO.lt
     refine Y3 J Xj J J J (Qs (k := 1) (KE 1 (by omega) z1) (Vua F _) (by decide) [b3, b4, b5] h he165 hcT hkid hb (by omega) (E.ltm (by simp [selB])) g.size) ((fun ch w' hz => Bad.pass hz (by rw [ef]; exact Er.refl _) (by rw [hst.scope]; exact Aaa _) g)) ?_
     rintro v175 w175 ⟨⟨p175, c175, rfl, q175, k175⟩, he175, eW2, h, g175⟩
     refine ⟨nw1, ?_⟩
     have g := gtw g g175
     replace E := E.gtx g175
     have hO := hO.gt g175 rfl
     rw [eW2] at he175 ef
     refine Xx ?_
     refine Zt 8 J J ?_
     refine Zn (L' := [9]) [3, 3, 3, 0, 3, 0, 0, 2, 1, 2] J J J ?_
     refine Yc _ J Zc Zs (pqc J pq0) J J ?_
     intro b176 w176 N176
     have l176 := We N176 g.size
     have hp176 := h
     have hOp176 := hO
     have k175 := k175.new N176
     have B176 := N176.blk
     have g := gtg g N176.g
     replace E := E.grow N176.g
     have h := h.grow (N176.g)
     have hO := hO.grow (N176.g)
     refine Zy ((N176.g).only _) ?_
     refine Zt 9 J J ?_
     refine Xb (L' := []) [3, 3, 3, 0, 3, 0, 0, 2, 1, 2] J J J J ?_
     have hOo := hO
     refine Xm J (Zu Yh (Zd J) (aqc J aq0) J) (Qf E.g0 hO (by simp) B176.row (Vt k175 q175 (by intro j hj; simp at hj ⊢ <;> omega) (fun j hj => .inr (hOlt j hj))) (by simp <;> omega) (by have := g.size; omega) ⟨by have := g.size; omega, fun hm => Aca _ (E.ltm (by simp [selB]) _ hm)⟩) ?_
     rintro v177 w177 ⟨rfl, a177, c177, z177, hO, hgA177, hgB177, BM177, BN177⟩
     refine ⟨nw1, ?_⟩
     replace E := E.keepX hgA177 hOo.ne (by simp [selB])
     replace E := E.s0 hgB177 BN177
     have g := Ve g hgA177 (fun k hk => hOo.ge k hk)
     have g := Yd g hgB177 (by omega)
     have h := h.keepO hgA177 hOo (by omega)
     have h := h.keep hgB177 BM177 (by omega) (.inl rfl)
     refine Xx ?_
     refine TK [4, 5] ?_
     refine AS fun _ ga Ca g E => ?_
     first | have h := h.keep ga Ca (by omega) (.inl rfl) | have h := h.keep ga Ca (by omega) (.inr ⟨by simp, fun hm => by have := htb2 _ hm; omega⟩)
     have hO := Ua hO
     refine RTN ?_
     rw [ef]; exact ⟨he175, Xp (t := annT t [_, _] ty0) rfl hO.kd, h, g⟩
   replace h8 : t.kind ≠ 16 := Wsg h8
   refine IF (fun h9 => ?_) fun h9 => ?_
   · replace h9 : t.kind = 17 := Wrg h9
     obtain ⟨hl, z0⟩ := sh17 h9 hx
     have ef := st_17 (F := F) (S := S) h9
     have hc0 := hcS 0 (by omega)
     rw [hcX 0 (by omega)] at ef
     refine Xh (rowR none) [3, 3, 3, 0, 3, 0, 0, 2, 1, 2] [0, 0, 0, 4, 12, 28, 0, 126, 254, 511] mix (by kernel_rfl) [0, 1, 2, 3, 4, 5, 6, 7, 8, 9] J ?_
     have g := gtd g
     replace E := E.dr
     have h := h.grow (G.drew _)
     have hk0 := hk0.grow (G.drew _)
     have hO := hO.grow (G.drew _)
     refine Zx 0 J J (fun _ => Zw (Zd J)) (Zx 1 J J (fun _ => Zw (Zd J)) (Zx 2 J J (fun _ => Zi Zh (Zd J)) (Yi 3 J J (fun w1 hx => Zq Zg (Zd J) (fun _ => (E.g2.keep hx (fun h => nomatch h)).at_ J)) (?_))))
     obtain ⟨hpe, p_184, c_184, hcell, hkid⟩ := Yq hk0 (i := 0) (by omega)
     refine Zx 4 J J (fun _ => Yv Zc (Zd J) Xa (fun _ => by omega) (fun _ => hpe)) (Yi 5 J J (fun w1 hx => Zo Zf (Zd J) J (fun _ => hcell.kn hx)) (Yi 6 J J (fun w1 hx => Zo Zm Jea J (fun _ => h.laid.hC.2.2.2.2.1.kn hx)) (Zt 7 J J ?_)))
     refine Xb (L' := [8, 9]) [3, 3, 3, 0, 3, 0, 0, 2, 1, 2] J J J J ?_
     refine Y3 J Xj J J J (Qs (k := 6) (KE 0 (by omega) z0) (Vua F _) (by decide) [b3, b4, b5] h he hc hkid hb (by omega) (E.ltm (by simp [selB])) g.size) ((fun ch w' hz => Bad.pass hz (by rw [ef]; exact Er.refl _) (Aaa _) g)) ?_
     rintro v187 w187 ⟨⟨p187, c187, rfl, q187, k187⟩, he187, eW, h, g187⟩
     refine ⟨nw1, ?_⟩
     have g := gtw g g187
     replace E := E.gtx g187
     have hO := hO.gt g187 rfl
     rw [eW] at he187 ef
     refine Xx ?_
     refine Zt 8 J J ?_
     refine Zn (L' := [9]) [3, 3, 3, 0, 3, 0, 0, 2, 1, 2] J J J ?_
     refine Yc _ J Zc Zs (pqc J pq0) J J ?_
     intro b188 w188 N188
     have l188 := We N188 g.size
     have hp188 := h
     have hOp188 := hO
     have k187 := k187.new N188
     have B188 := N188.blk
     have g := gtg g N188.g
     replace E := E.grow N188.g
     have h := h.grow (N188.g)
     have hO := hO.grow (N188.g)
     refine Zy ((N188.g).only _) ?_
     refine Zt 9 J J ?_
     refine Xb (L' := []) [3, 3, 3, 0, 3, 0, 0, 2, 1, 2] J J J J ?_
     have hOo := hO
     refine Xm J (Zu Yh (Zd J) (aqc J aq0) J) (Qf E.g0 hO (by simp) B188.row (Vt k187 q187 (by intro j hj; simp at hj ⊢ <;> omega) (fun j hj => by cases hj)) (by simp <;> omega) (by have := g.size; omega) ⟨by have := g.size; omega, fun hm => Aca _ (E.ltm (by simp [selB]) _ hm)⟩) ?_
     rintro v189 w189 ⟨rfl, a189, c189, z189, hO, hgA189, hgB189, BM189, BN189⟩
     refine ⟨nw1, ?_⟩
     replace E := E.keepX hgA189 hOo.ne (by simp [selB])
     replace E := E.s0 hgB189 BN189
     have g := Ve g hgA189 (fun k hk => hOo.ge k hk)
     have g := Yd g hgB189 (by omega)
     have h := h.keepO hgA189 hOo (by omega)
     have h := h.keep hgB189 BM189 (by omega) (.inl rfl)
     refine Xx ?_
     refine TK [4, 5] ?_
     refine AS fun _ ga Ca g E => ?_
     first | have h := h.keep ga Ca (by omega) (.inl rfl) | have h := h.keep ga Ca (by omega) (.inr ⟨by simp, fun hm => by have := htb2 _ hm; omega⟩)
     have hO := Ua hO
     refine RTN ?_
     rw [ef]; exact ⟨he187, Xp (t := annT t [_] ty0) rfl hO.kd, h, g⟩
   replace h9 : t.kind ≠ 17 := Wsg h9
   refine IF (fun h10 => ?_) fun h10 => ?_
   · replace h10 : t.kind = 21 := Wrg h10
     obtain ⟨hl, z0⟩ := sh21 h10 hx
     have ef := st_21 (F := F) (S := S) h10
     have hc0 := hcS 0 (by omega)
     rw [hcX 0 (by omega)] at ef
     have hcan := (Voc F (Zb t 0)).ex S hs hc
     rw [← Qdb hcan (k := 1) (by decide), ← Qdb hcan (k := 2) (by decide)] at ef
     have hst := (Uh F (Zb t 0)).ex S
     obtain ⟨hpe, p_195, c_195, hcell, hkid⟩ := Yq hk0 (i := 0) (by omega)
     refine AU ?_
     refine Y2 J Xt J J (CxM.to (KE 0 (by omega) z0) [b3, b4, b5] h he hc hkid hb (by omega) (E.ltm (by simp [selB])) g.size) ((fun ch w' hz => Bad.pass hz (by rw [ef]; exact (Er.refl _).failu _ _ _) (Aaa _) g)) ?_
     rintro v197 w197 ⟨⟨p197, c197, rfl, q197, k197⟩, he197, h, g197⟩
     refine ⟨nw1, ?_⟩
     have g := gtw g g197
     replace E := E.gtx g197
     have hO := hO.gt g197 rfl
     have hkid := hkid.gt g197 (fun k h => h)
     have hk0 := hk0.gt g197 (fun k h => h)
     refine Xc J Zs J ?_
     intro b11 w11 N11
     have l11 := We N11 g.size
     have hp11 := h
     have hOp11 := hO
     have k197 := k197.new N11
     have g := gtg g N11.g
     have h := h.grow (N11.g)
     have hk0 := hk0.grow (N11.g)
     have hO := hO.grow (N11.g)
     have hkid := hkid.grow (N11.g)
     replace E := E.new N11
     have hO := Ypa [b3, b4, b5, b11] w.heap.size w11
     refine AS fun _ ga Ca g E => ?_
     first | have h := h.keep ga Ca (by omega) (.inl rfl) | have h := h.keep ga Ca (by omega) (.inr ⟨by simp, fun hm => by have := htb2 _ hm; omega⟩)
     have hk0 := Ud hk0
     have hO := Ua hO
     have hkid := Ud hkid
     have k197 := k197.keep ga (by first | exact .inl (by omega) | exact .inr (by simp))
     refine AU ?_
     refine Xh (rowR none) [3, 0, 0, 3, 3, 3, 0, 0, 3, 3, 3, 0, 3, 3, 0, 1] [0, 1, 0, 7, 15, 31, 63, 31, 255, 511, 0, 1024, 3072, 7168, 15360, 32767] mix (by kernel_rfl) [0, 1, 2, 3, 4, 5, 6, 7, 8, 9, 10, 11, 12, 13, 14, 15] J ?_
     have g := gtd g
     replace E := E.dr
     have h := h.grow (G.drew _)
     have hk0 := hk0.grow (G.drew _)
     have hO := hO.grow (G.drew _)
     have hcell := hcell.grow (G.drew _)
     have hkid := hkid.grow (G.drew _)
     have k197 := k197.grow (G.drew _)
     refine Zx 0 J J (fun _ => Zi Yk (Zd J)) (Yi 1 J J (fun w1 hx => Zo Zm (Zd J) J (fun _ => (E.g0.keep hx (fun h => nomatch h)).row.part 5 2)) (Yi 2 J J (fun w1 hx => Zo Zm Jea J (fun _ => h.laid.hC.1.kn hx)) (Zx 3 J J (fun _ => Qx Wo (Zd J) (Zd J) J) (Zx 4 J J (fun _ => Zw (Zd J)) (Yga (L' := [6, 7, 8, 9, 10, 11, 12, 13, 14, 15]) 5 J J J J J (fun _ => Zi Yk (Zd J)) (Wsa (L' := [7, 8, 9, 10, 11, 12, 13, 14, 15]) 6 J J J J J (fun w1 hx => Zo Zm (Zp J id) J (fun _ => (E.g0.keep hx (fun h => nomatch h)).row.part 5 2)) (Wsa (L' := [8, 9, 10, 11, 12, 13, 14, 15]) 7 J J J J J (fun w1 hx => Zo Zm Jea J (fun _ => h.laid.hC.2.1.kn hx)) (Yga (L' := [9, 10, 11, 12, 13, 14, 15]) 8 J J J J J (fun _ => Qx Wo (Zp J id) (Zp J id) J) (Zx 9 J J (fun _ => Xd (Zd J) (Zp J id)) (Zx 10 J J (fun _ => Zi Zh (Zd J)) (Yi 11 J J (fun w1 hx => Zq Zg (Zd J) (fun _ => (E.g3.keep hx (fun h => nomatch h)).at_ J)) (?_))))))))))))
     obtain ⟨hpe, p_210, c_210, hcell, hkid⟩ := Yq hk0 (i := 0) (by omega)
     refine Zx 12 J J (fun _ => Yv Zc (Zd J) Xa (fun _ => by omega) (fun _ => hpe)) (Zx 13 J J (fun _ => Zi Xz (Zd J)) (Yi 14 J J (fun w1 hx => Zq Yf (Zd J) (fun _ => (hcell.kn hx).one (i := 3) J)) (Zt 15 J J ?_)))
     refine Zn (L' := []) [3, 0, 0, 3, 3, 3, 0, 0, 3, 3, 3, 0, 3, 3, 0, 1] J J J ?_
     refine Y3 J Ye J J J (Vf _ _ _ _) ((fun ch w' hz => Ul h he197 (by decide) (by rw [ef]; exact Er.refl _) hz g (by rw [hst.scope]; exact Aaa _))) ?_
     rintro v213 w213 ⟨rfl, hq213, g213⟩
     refine ⟨fun _ => g213, ?_⟩
     have g := gtg g g213
     replace E := E.grow g213
     have h := h.grow (g213)
     have hO := hO.grow (g213)
     have k197 := k197.grow (g213)
     rw [show (tyEqB ((ckT F (Zb t 0)).ex S).1.ty ⟨1, []⟩ || tyEqB ((ckT F (Zb t 0)).ex S).1.ty ⟨2, []⟩) = true from hq213] at ef
     refine Zy ((g213).only _) ?_
     refine TK [4, 5, 6, 11] ?_
     refine AU ?_
     refine Yc _ J Zc Zs (pqc J pq0) J J ?_
     intro b216 w216 N216
     have l216 := We N216 g.size
     have hp216 := h
     have hOp216 := hO
     have k197 := k197.new N216
     have B216 := N216.blk
     have g := gtg g N216.g
     replace E := E.grow N216.g
     have h := h.grow (N216.g)
     have hO := hO.grow (N216.g)
     have hOo := hO
     refine Xm J (Zu Yh (Zd J) (aqc J aq0) J) (Qf E.g1 hO (by simp) B216.row (Vt k197 q197 (by intro j hj; simp at hj ⊢ <;> omega) (fun j hj => by cases hj)) (by simp <;> omega) (by have := g.size; omega) ⟨by have := g.size; omega, fun hm => Aca _ (E.ltm (by simp [selB]) _ hm)⟩) ?_
     rintro v217 w217 ⟨rfl, a217, c217, z217, hO, hgA217, hgB217, BM217, BN217⟩
     refine ⟨nw1, ?_⟩
     replace E := E.keepX hgA217 hOo.ne (by simp [selB])
     replace E := E.s1 hgB217 BN217
     have g := Ve g hgA217 (fun k hk => hOo.ge k hk)
     have g := Yd g hgB217 (by omega)
     have h := h.keepO hgA217 hOo (by omega)
     have h := h.keep hgB217 BM217 (by omega) (.inl rfl)
     refine AS fun _ ga Ca g E => ?_
     first | have h := h.keep ga Ca (by omega) (.inl rfl) | have h := h.keep ga Ca (by omega) (.inr ⟨by simp, fun hm => by have := htb2 _ hm; omega⟩)
     have hO := Ua hO
     refine RTN ?_
     rw [ef]; exact ⟨he197, Xp (t := annT t [_] ty0) rfl hO.kd, h, g⟩
   replace h10 : t.kind ≠ 21 := Wsg h10
   refine AU ?_
   refine' OR [0, 3, 4, 5, 6, 24] (fun hb11 => ?y11) (kq ?n11)
   case y11 =>
    refine AU ?_
    refine SK [218, 0, 3, 4, 5, 6, 24] ?_
    exact Ze knr
   case n11 =>
    refine IF (fun h12 => ?_) fun h12 => ?_
    · replace h12 : t.kind = 18 ∨ t.kind = 19 := by simpa using h12
      obtain ⟨⟨hl2, hl3⟩, z0, zr, ef⟩ := st_rest' (F := F) (S := S) hx h12
      obtain ⟨bp, op, rfl⟩ : ∃ bp op, p = some ⟨bp, op, none⟩ := ⟨_, _, (Yq hk0 (i := 0) (by omega)).1⟩
      have hc0 := hcS 0 (by omega)
      obtain ⟨C, hC⟩ : ∃ C, C = cndA F t S := ⟨_, rfl⟩
      rw [← hC] at ef
      have hsC : Stp (sC t 1) S C.2 := by rw [hC]; exact Qff (by omega)
      have hvC : Vs S C.2 := by rw [hC]; exact Yug hs
      have hrc := Vyd (F := F) (t := t) (hvC.sc hs) (hvC.can hc)
      have hrs := Vzd (F := F) hsC
      have her : ∀ i k, Er (restA F t C.2 i).2 (restA F t C.2 (i + k)).2 := Xge F t C.2
      have hec : Er C.2 ((ckT F t).st S).2 := by
        rw [ef]
        have := her 0 (t.kids.length - 1)
        rwa [Aoa] at this
      obtain ⟨hpe, p_223, c_223, hcell, hkid⟩ := Yq hk0 (i := 0) (by omega)
      refine IF (fun h13 => ?_) fun h13 => ?_
      · replace h13 : (Zb t 0).kind = 9 := Wrg h13
        have eC := hC.trans (Yxf h13)
        have hkk := Xhe z0 h13
        obtain ⟨hpe, p_230, c_230, hcell, hkid⟩ := Yq hk0 (i := 0) (by omega)
        refine AU ?_
        refine CL (Jo (Zb t 0) _ _ _ [b3, b4, b5] hkid (by omega) (E.ltm (by simp [selB])) g.size) ?_
        rintro _ _ ⟨⟨p232, c232, rfl, q232, k232⟩, ga⟩
        refine RC fun g E => ?_
        have h := Uk h
        have hk0 := Uk hk0
        have hO := Uk hO
        have hcell := Uk hcell
        have hkid := Uk hkid
        refine Yc _ J Zc Zs (pqc J pq0) J J ?_
        intro b233 w233 N233
        have l233 := We N233 g.size
        have hp233 := h
        have hOp233 := hO
        have k232 := k232.new N233
        have B233 := N233.blk
        have g := gtg g N233.g
        replace E := E.grow N233.g
        have h := h.grow (N233.g)
        have hk0 := hk0.grow (N233.g)
        have hO := hO.grow (N233.g)
        have hcell := hcell.grow (N233.g)
        have hkid := hkid.grow (N233.g)
        have hOo := hO
        refine Xm J (Zu Yh (Zd J) (aqc J aq0) J) (Qf E.g0 hO (by simp) B233.row (Vt k232 q232 (by intro j hj; simp at hj ⊢ <;> omega) (fun j hj => by cases hj)) (by simp <;> omega) (by have := g.size; omega) ⟨by have := g.size; omega, fun hm => Aca _ (E.ltm (by simp [selB]) _ hm)⟩) ?_
        rintro v234 w234 ⟨rfl, a234, c234, z234, hO, hgA234, hgB234, BM234, BN234⟩
        refine ⟨nw1, ?_⟩
        replace E := E.keepX hgA234 hOo.ne (by simp [selB])
        replace E := E.s0 hgB234 BN234
        have g := Ve g hgA234 (fun k hk => hOo.ge k hk)
        have g := Yd g hgB234 (by omega)
        have h := h.keepO hgA234 hOo (by omega)
        have h := h.keep hgB234 BM234 (by omega) (.inl rfl)
        have hk0 := hk0.keep hgA234 (fun k hk _ e => by have := hOo.ge k e.symm; omega)
        have hk0 := hk0.keep hgB234 (fun k hk _ e => by injection e with e; omega)
        have hkid := hkid.keep hgA234 (fun k hk _ e => by have := hOo.ge k e.symm; omega)
        have hkid := hkid.keep hgB234 (fun k hk _ e => by injection e with e; omega)
        have heC : C.2.ee = 0 := by rw [eC]; exact he
        replace h : PC F n0 b TB X (some r0) C.2 w234 := by rw [eC]; exact h
        rw [Qla hkk, show clnT (Zb t 0) = C.1 from by rw [eC]] at hO
        refine AU ?_
        refine Zz J (fun _ => Zob Zc (Zd J) Xa (fun _ => by omega)) ?_
        refine AU ?_
        have hnd1 := E.1
        refine Uy (fun (i : Nat) u1 => (i + 1 ≤ t.kids.length ∧ (restA F t C.2 i).2.ee = 0 ∧ PC F n0 b TB X (some r0) (restA F t C.2 i).2 u1 ∧ ∃ s, Blk u1 b5 26 (ndCells (clnT t) s) ∧ OwnN [b3, b4, b5] w.heap.size u1 (C.1 :: (restA F t C.2 i).1) s) ∧ GT (mutC X) n0 w u1) _ [(0, True, _), (4, True, _), (5, True, _), (6, True, _), (247, True, _), (248, True, _)] (fun (i : Nat) => [(249, True, .int .i64 i)]) (fun (i : Nat) => t.kids.length - i) (0) ⟨⟨by omega, heC, h, _, E.g0, hO⟩, g⟩ (Yb (blkE E.g2) (Yb (blkE E.g1) (Wd _))) (Za J (Za J (Za J (Za J (Za J (Za J (Za J (Zr _)))))))) ?_
        clear E
        rintro i u1 ⟨hI1, gl1⟩ ⟨B3, B4, _⟩
        replace B3 : Blk _ _ _ _ := B3
        replace B4 : Blk _ _ _ _ := B4
        have g := gl1
        obtain ⟨hi, hei, h, s, B5, hO⟩ := hI1
        obtain ⟨sa, sc, rfl⟩ := hO.slice
        have hk0 := hkw.gt gl1 (fun k h => h)
        have hlen := Ypc F t C.2 i
        have E := Vma (L := [(b5, _, _), (b4, _, _), (b3, _, _)]) hnd1 ⟨B5, B4, B3, trivial⟩ rfl
        refine IF (fun h14 => ?_) fun h14 => ?_
        · replace h14 : i + 1 < t.kids.length := by simp only [Wpg] at h14; omega
          obtain ⟨e0, p1, c1, hcell, hkid⟩ := Yq hk0 (i := i + 1) h14
          have hci := hcS (i + 1) h14
          have hbd := (hrs i hi).bd _ hb
          obtain ⟨zn, zs⟩ := zr i h14
          refine Yw (kq (Zj (Yx (Zj (Zl (Zma Zc J J (by omega) J (Wm Zf J J (by
  have q := hcell
  rw [show po (some (⟨bp, op, none⟩ : Addr)) + (i + 1) * 9 = op + 9 + i * 9 by show op + (i + 1) * 9 = _; omega] at q
  show RowAt u1 bp ((if c = 1 then op else op + 1 * 9) + i * 9) _
  rw [if_neg (by omega)]; exact q) (Xc rfl Zs rfl ?_))))))))
          intro b13 w13 N13
          have l13 := We N13 g.size
          have hp13 := h
          have hOp13 := hO
          have g := gtg g N13.g
          have h := h.grow (N13.g)
          have hO := hO.grow (N13.g)
          have hkid := hkid.grow (N13.g)
          replace E := E.new N13
          have hO := hOp13.new N13
          refine AS fun _ ga Ca g E => ?_
          first | have h := h.keep ga Ca (by omega) (.inl rfl) | have h := h.keep ga Ca (by omega) (.inr ⟨by simp, fun hm => by have := htb2 _ hm; omega⟩)
          have hO := Ua hO
          have hkid := Ud hkid
          refine IF (fun h15 => ?_) fun h15 => ?_
          · replace h15 : (Zb t (i + 1)).kind = 9 := Wrg h15
            have ern := Jnc (F := F) (T := C.2) h15
            refine AU ?_
            have hOlt := hO.lt
            refine CL (Jo (Zb t (i + 1)) _ _ _ [b3, b4, b5, b13] hkid (by omega) (E.ltm (by simp [selB])) g.size) ?_
            rintro _ _ ⟨⟨p258, c258, rfl, q258, k258⟩, ga⟩
            refine RC fun g E => ?_
            have h := Uk h
            have hO := Uk hO
            refine Yc _ J Zc Zs (pqc J pq0) J J ?_
            intro b259 w259 N259
            have l259 := We N259 g.size
            have hp259 := h
            have hOp259 := hO
            have k258 := k258.new N259
            have B259 := N259.blk
            have g := gtg g N259.g
            replace E := E.grow N259.g
            have h := h.grow (N259.g)
            have hO := hO.grow (N259.g)
            have hOo := hO
            refine Xm J (Zu Yh (Zd J) (aqc J aq0) J) (Qf E.g1 hO (by simp) B259.row (Vt k258 q258 (by intro j hj; simp at hj ⊢ <;> omega) (fun j hj => .inr (hOlt j hj))) (by simp <;> omega) (by have := g.size; omega) ⟨by have := g.size; omega, fun hm => Aca _ (E.ltm (by simp [selB]) _ hm)⟩) ?_
            rintro v260 w260 ⟨rfl, a260, c260, z260, hO, hgA260, hgB260, BM260, BN260⟩
            refine ⟨nw1, ?_⟩
            replace E := E.keepX hgA260 hOo.ne (by simp [selB])
            replace E := E.s1 hgB260 BN260
            have g := Ve g hgA260 (fun k hk => hOo.ge k hk)
            have g := Yd g hgB260 (by omega)
            have h := h.keepO hgA260 hOo (by omega)
            have h := h.keep hgB260 BM260 (by omega) (.inl rfl)
            refine AU ?_
            refine SK [249, 0, 4, 5, 6, 247, 248] ?_
            refine Ze (fun a ha => ?_)
            exact ⟨i + 1, ha, ⟨⟨h14, by rw [ern]; exact hei, by rw [ern]; exact h, _, E.g1, by rw [ern, ← Qla (zn h15)]; exact hO.sub (by intro j hj; simp at hj ⊢ <;> omega)⟩, g⟩, (Yb (blkE E.g3) (Yb (blkE E.g2) (Wd _))), by omega⟩
          replace h15 : (Zb t (i + 1)).kind ≠ 9 := Wsg h15
          have ern := Joc (F := F) (T := C.2) h15
          refine AU ?_
          have hOlt := hO.lt
          refine Y2 J Qm J J (CxM.to (KT (i + 1) h14 (zs h15)) [b3, b4, b5, b13] h hei (hrc i).2 hkid hbd (by omega) (E.ltm (by simp [selB])) g.size) ((fun ch w' hz => Bad.pass hz (by rw [ef]; have := her (i + 1) (t.kids.length - 1 - (i + 1)); rwa [show i + 1 + (t.kids.length - 1 - (i + 1)) = t.kids.length - 1 by omega, ern] at this) (by rw [(hrs i hi).scope]; exact Aaa _) g)) ?_
          rintro v264 w264 ⟨⟨p264, c264, rfl, q264, k264⟩, he264, h, g264⟩
          refine ⟨nw1, ?_⟩
          have g := gtw g g264
          replace E := E.gtx g264
          have hO := hO.gt g264 rfl
          refine Yc _ J Zc Zs (pqc J pq0) J J ?_
          intro b265 w265 N265
          have l265 := We N265 g.size
          have hp265 := h
          have hOp265 := hO
          have k264 := k264.new N265
          have B265 := N265.blk
          have g := gtg g N265.g
          replace E := E.grow N265.g
          have h := h.grow (N265.g)
          have hO := hO.grow (N265.g)
          have hOo := hO
          refine Xm J (Zu Yh (Zd J) (aqc J aq0) J) (Qf E.g1 hO (by simp) B265.row (Vt k264 q264 (by intro j hj; simp at hj ⊢ <;> omega) (fun j hj => .inr (hOlt j hj))) (by simp <;> omega) (by have := g.size; omega) ⟨by have := g.size; omega, fun hm => Aca _ (E.ltm (by simp [selB]) _ hm)⟩) ?_
          rintro v266 w266 ⟨rfl, a266, c266, z266, hO, hgA266, hgB266, BM266, BN266⟩
          refine ⟨nw1, ?_⟩
          replace E := E.keepX hgA266 hOo.ne (by simp [selB])
          replace E := E.s1 hgB266 BN266
          have g := Ve g hgA266 (fun k hk => hOo.ge k hk)
          have g := Yd g hgB266 (by omega)
          have h := h.keepO hgA266 hOo (by omega)
          have h := h.keep hgB266 BM266 (by omega) (.inl rfl)
          refine AU ?_
          refine SK [249, 0, 4, 5, 6, 247, 248] ?_
          refine Ze (fun a ha => ?_)
          exact ⟨i + 1, ha, ⟨⟨h14, by rw [ern]; exact he264, by rw [ern]; exact h, _, E.g1, by rw [ern]; exact hO.sub (by intro j hj; simp at hj ⊢ <;> omega)⟩, g⟩, (Yb (blkE E.g3) (Yb (blkE E.g2) (Wd _))), by omega⟩
        replace h14 : i = t.kids.length - 1 := by simp only [Wqg] at h14; omega
        subst h14
        refine AS fun _ ga Ca g E => ?_
        first | have h := h.keep ga Ca (by omega) (.inl rfl) | have h := h.keep ga Ca (by omega) (.inr ⟨by simp, fun hm => by have := htb2 _ hm; omega⟩)
        have hO := Ua hO
        refine RTN ?_
        rw [ef]; exact ⟨hei, Xp (t := annT t _ ty0) rfl (hO.sub (Y := [b3, b4, b5]) (by intro j hj; simp at hj ⊢ <;> omega)).kd, h, g⟩
      replace h13 : (Zb t 0).kind ≠ 9 := Wsg h13
      have z0 := z0.resolve_left fun q => h13 (Jw q).1
      have eC := hC.trans (Yyf h13)
      refine Xh (rowR none) [3, 3, 3, 0, 3, 0, 0, 2, 1, 2] [0, 0, 0, 4, 12, 28, 0, 126, 254, 511] mix (by kernel_rfl) [0, 1, 2, 3, 4, 5, 6, 7, 8, 9] J ?_
      have g := gtd g
      replace E := E.dr
      have h := h.grow (G.drew _)
      have hk0 := hk0.grow (G.drew _)
      have hO := hO.grow (G.drew _)
      have hcell := hcell.grow (G.drew _)
      have hkid := hkid.grow (G.drew _)
      refine Zx 0 J J (fun _ => Zw (Zd J)) (Zx 1 J J (fun _ => Zw (Zd J)) (Zx 2 J J (fun _ => Zi Zh (Zd J)) (Yi 3 J J (fun w1 hx => Zq Zg (Zd J) (fun _ => (E.g2.keep hx (fun h => nomatch h)).at_ J)) (?_))))
      obtain ⟨hpe, p_239, c_239, hcell, hkid⟩ := Yq hk0 (i := 0) (by omega)
      refine Zx 4 J J (fun _ => Yv Zc (Zd J) Xa (fun _ => by omega) (fun _ => hpe)) (Yi 5 J J (fun w1 hx => Zo Zf (Zd J) J (fun _ => hcell.kn hx)) (Yi 6 J J (fun w1 hx => Zo Zm Jea J (fun _ => h.laid.hC.2.1.kn hx)) (Zt 7 J J ?_)))
      refine Xb (L' := [8, 9]) [3, 3, 3, 0, 3, 0, 0, 2, 1, 2] J J J J ?_
      refine Y3 J Xj J J J (Qs (k := 2) (KE 0 (by omega) z0) (Vua F _) (by decide) [b3, b4, b5] h he hc hkid hb (by omega) (E.ltm (by simp [selB])) g.size) ((fun ch w' hz => Bad.pass hz (by rw [eC] at hec; exact hec) (Aaa _) g)) ?_
      rintro v242 w242 ⟨⟨p242, c242, rfl, q242, k242⟩, he242, eW, h, g242⟩
      refine ⟨nw1, ?_⟩
      have g := gtw g g242
      replace E := E.gtx g242
      have hO := hO.gt g242 rfl
      have hkid := hkid.gt g242 (fun k h => h)
      have hk0 := hk0.gt g242 (fun k h => h)
      rw [eW] at he242 eC
      refine Xx ?_
      refine Zt 8 J J ?_
      refine Zn (L' := [9]) [3, 3, 3, 0, 3, 0, 0, 2, 1, 2] J J J ?_
      refine Yc _ J Zc Zs (pqc J pq0) J J ?_
      intro b243 w243 N243
      have l243 := We N243 g.size
      have hp243 := h
      have hOp243 := hO
      have k242 := k242.new N243
      have B243 := N243.blk
      have g := gtg g N243.g
      replace E := E.grow N243.g
      have h := h.grow (N243.g)
      have hk0 := hk0.grow (N243.g)
      have hO := hO.grow (N243.g)
      have hkid := hkid.grow (N243.g)
      refine Zy ((N243.g).only _) ?_
      refine Zt 9 J J ?_
      refine Xb (L' := []) [3, 3, 3, 0, 3, 0, 0, 2, 1, 2] J J J J ?_
      have hOo := hO
      refine Xm J (Zu Yh (Zd J) (aqc J aq0) J) (Qf E.g0 hO (by simp) B243.row (Vt k242 q242 (by intro j hj; simp at hj ⊢ <;> omega) (fun j hj => by cases hj)) (by simp <;> omega) (by have := g.size; omega) ⟨by have := g.size; omega, fun hm => Aca _ (E.ltm (by simp [selB]) _ hm)⟩) ?_
      rintro v244 w244 ⟨rfl, a244, c244, z244, hO, hgA244, hgB244, BM244, BN244⟩
      refine ⟨nw1, ?_⟩
      replace E := E.keepX hgA244 hOo.ne (by simp [selB])
      replace E := E.s0 hgB244 BN244
      have g := Ve g hgA244 (fun k hk => hOo.ge k hk)
      have g := Yd g hgB244 (by omega)
      have h := h.keepO hgA244 hOo (by omega)
      have h := h.keep hgB244 BM244 (by omega) (.inl rfl)
      have hk0 := hk0.keep hgA244 (fun k hk _ e => by have := hOo.ge k e.symm; omega)
      have hk0 := hk0.keep hgB244 (fun k hk _ e => by injection e with e; omega)
      have hkid := hkid.keep hgA244 (fun k hk _ e => by have := hOo.ge k e.symm; omega)
      have hkid := hkid.keep hgB244 (fun k hk _ e => by injection e with e; omega)
      have heC : C.2.ee = 0 := by rw [eC]; exact he242
      replace h : PC F n0 b TB X (some r0) C.2 w244 := by rw [eC]; exact h
      rw [show ((ckT F (Zb t 0)).ex S).1 = C.1 from by rw [eC]] at hO
      refine Xx ?_
      refine TK [0, 3, 4, 5, 6] ?_
      refine AU ?_
      refine Zz J (fun _ => Zob Zc (Zd J) Xa (fun _ => by omega)) ?_
      refine AU ?_
      have hnd1 := E.1
      refine Uy (fun (i : Nat) u1 => (i + 1 ≤ t.kids.length ∧ (restA F t C.2 i).2.ee = 0 ∧ PC F n0 b TB X (some r0) (restA F t C.2 i).2 u1 ∧ ∃ s, Blk u1 b5 26 (ndCells (clnT t) s) ∧ OwnN [b3, b4, b5] w.heap.size u1 (C.1 :: (restA F t C.2 i).1) s) ∧ GT (mutC X) n0 w u1) _ [(0, True, _), (4, True, _), (5, True, _), (6, True, _), (247, True, _), (248, True, _)] (fun (i : Nat) => [(249, True, .int .i64 i)]) (fun (i : Nat) => t.kids.length - i) (0) ⟨⟨by omega, heC, h, _, E.g0, hO⟩, g⟩ (Yb (blkE E.g2) (Yb (blkE E.g1) (Wd _))) (Za J (Za J (Za J (Za J (Za J (Za J (Za J (Zr _)))))))) ?_
      clear E
      rintro i u1 ⟨hI1, gl1⟩ ⟨B3, B4, _⟩
      replace B3 : Blk _ _ _ _ := B3
      replace B4 : Blk _ _ _ _ := B4
      have g := gl1
      obtain ⟨hi, hei, h, s, B5, hO⟩ := hI1
      obtain ⟨sa, sc, rfl⟩ := hO.slice
      have hk0 := hkw.gt gl1 (fun k h => h)
      have hlen := Ypc F t C.2 i
      have E := Vma (L := [(b5, _, _), (b4, _, _), (b3, _, _)]) hnd1 ⟨B5, B4, B3, trivial⟩ rfl
      refine IF (fun h14 => ?_) fun h14 => ?_
      · replace h14 : i + 1 < t.kids.length := by simp only [Wpg] at h14; omega
        obtain ⟨e0, p1, c1, hcell, hkid⟩ := Yq hk0 (i := i + 1) h14
        have hci := hcS (i + 1) h14
        have hbd := (hrs i hi).bd _ hb
        obtain ⟨zn, zs⟩ := zr i h14
        refine Yw (kq (Zj (Yx (Zj (Zl (Zma Zc J J (by omega) J (Wm Zf J J (by
  have q := hcell
  rw [show po (some (⟨bp, op, none⟩ : Addr)) + (i + 1) * 9 = op + 9 + i * 9 by show op + (i + 1) * 9 = _; omega] at q
  show RowAt u1 bp ((if c = 1 then op else op + 1 * 9) + i * 9) _
  rw [if_neg (by omega)]; exact q) (Xc rfl Zs rfl ?_))))))))
        intro b13 w13 N13
        have l13 := We N13 g.size
        have hp13 := h
        have hOp13 := hO
        have g := gtg g N13.g
        have h := h.grow (N13.g)
        have hO := hO.grow (N13.g)
        have hkid := hkid.grow (N13.g)
        replace E := E.new N13
        have hO := hOp13.new N13
        refine AS fun _ ga Ca g E => ?_
        first | have h := h.keep ga Ca (by omega) (.inl rfl) | have h := h.keep ga Ca (by omega) (.inr ⟨by simp, fun hm => by have := htb2 _ hm; omega⟩)
        have hO := Ua hO
        have hkid := Ud hkid
        refine IF (fun h15 => ?_) fun h15 => ?_
        · replace h15 : (Zb t (i + 1)).kind = 9 := Wrg h15
          have ern := Jnc (F := F) (T := C.2) h15
          refine AU ?_
          have hOlt := hO.lt
          refine CL (Jo (Zb t (i + 1)) _ _ _ [b3, b4, b5, b13] hkid (by omega) (E.ltm (by simp [selB])) g.size) ?_
          rintro _ _ ⟨⟨p258, c258, rfl, q258, k258⟩, ga⟩
          refine RC fun g E => ?_
          have h := Uk h
          have hO := Uk hO
          refine Yc _ J Zc Zs (pqc J pq0) J J ?_
          intro b259 w259 N259
          have l259 := We N259 g.size
          have hp259 := h
          have hOp259 := hO
          have k258 := k258.new N259
          have B259 := N259.blk
          have g := gtg g N259.g
          replace E := E.grow N259.g
          have h := h.grow (N259.g)
          have hO := hO.grow (N259.g)
          have hOo := hO
          refine Xm J (Zu Yh (Zd J) (aqc J aq0) J) (Qf E.g1 hO (by simp) B259.row (Vt k258 q258 (by intro j hj; simp at hj ⊢ <;> omega) (fun j hj => .inr (hOlt j hj))) (by simp <;> omega) (by have := g.size; omega) ⟨by have := g.size; omega, fun hm => Aca _ (E.ltm (by simp [selB]) _ hm)⟩) ?_
          rintro v260 w260 ⟨rfl, a260, c260, z260, hO, hgA260, hgB260, BM260, BN260⟩
          refine ⟨nw1, ?_⟩
          replace E := E.keepX hgA260 hOo.ne (by simp [selB])
          replace E := E.s1 hgB260 BN260
          have g := Ve g hgA260 (fun k hk => hOo.ge k hk)
          have g := Yd g hgB260 (by omega)
          have h := h.keepO hgA260 hOo (by omega)
          have h := h.keep hgB260 BM260 (by omega) (.inl rfl)
          refine AU ?_
          refine SK [249, 0, 4, 5, 6, 247, 248] ?_
          refine Ze (fun a ha => ?_)
          exact ⟨i + 1, ha, ⟨⟨h14, by rw [ern]; exact hei, by rw [ern]; exact h, _, E.g1, by rw [ern, ← Qla (zn h15)]; exact hO.sub (by intro j hj; simp at hj ⊢ <;> omega)⟩, g⟩, (Yb (blkE E.g3) (Yb (blkE E.g2) (Wd _))), by omega⟩
        replace h15 : (Zb t (i + 1)).kind ≠ 9 := Wsg h15
        have ern := Joc (F := F) (T := C.2) h15
        refine AU ?_
        have hOlt := hO.lt
        refine Y2 J Qm J J (CxM.to (KT (i + 1) h14 (zs h15)) [b3, b4, b5, b13] h hei (hrc i).2 hkid hbd (by omega) (E.ltm (by simp [selB])) g.size) ((fun ch w' hz => Bad.pass hz (by rw [ef]; have := her (i + 1) (t.kids.length - 1 - (i + 1)); rwa [show i + 1 + (t.kids.length - 1 - (i + 1)) = t.kids.length - 1 by omega, ern] at this) (by rw [(hrs i hi).scope]; exact Aaa _) g)) ?_
        rintro v264 w264 ⟨⟨p264, c264, rfl, q264, k264⟩, he264, h, g264⟩
        refine ⟨nw1, ?_⟩
        have g := gtw g g264
        replace E := E.gtx g264
        have hO := hO.gt g264 rfl
        refine Yc _ J Zc Zs (pqc J pq0) J J ?_
        intro b265 w265 N265
        have l265 := We N265 g.size
        have hp265 := h
        have hOp265 := hO
        have k264 := k264.new N265
        have B265 := N265.blk
        have g := gtg g N265.g
        replace E := E.grow N265.g
        have h := h.grow (N265.g)
        have hO := hO.grow (N265.g)
        have hOo := hO
        refine Xm J (Zu Yh (Zd J) (aqc J aq0) J) (Qf E.g1 hO (by simp) B265.row (Vt k264 q264 (by intro j hj; simp at hj ⊢ <;> omega) (fun j hj => .inr (hOlt j hj))) (by simp <;> omega) (by have := g.size; omega) ⟨by have := g.size; omega, fun hm => Aca _ (E.ltm (by simp [selB]) _ hm)⟩) ?_
        rintro v266 w266 ⟨rfl, a266, c266, z266, hO, hgA266, hgB266, BM266, BN266⟩
        refine ⟨nw1, ?_⟩
        replace E := E.keepX hgA266 hOo.ne (by simp [selB])
        replace E := E.s1 hgB266 BN266
        have g := Ve g hgA266 (fun k hk => hOo.ge k hk)
        have g := Yd g hgB266 (by omega)
        have h := h.keepO hgA266 hOo (by omega)
        have h := h.keep hgB266 BM266 (by omega) (.inl rfl)
        refine AU ?_
        refine SK [249, 0, 4, 5, 6, 247, 248] ?_
        refine Ze (fun a ha => ?_)
        exact ⟨i + 1, ha, ⟨⟨h14, by rw [ern]; exact he264, by rw [ern]; exact h, _, E.g1, by rw [ern]; exact hO.sub (by intro j hj; simp at hj ⊢ <;> omega)⟩, g⟩, (Yb (blkE E.g3) (Yb (blkE E.g2) (Wd _))), by omega⟩
      replace h14 : i = t.kids.length - 1 := by simp only [Wqg] at h14; omega
      subst h14
      refine AS fun _ ga Ca g E => ?_
      first | have h := h.keep ga Ca (by omega) (.inl rfl) | have h := h.keep ga Ca (by omega) (.inr ⟨by simp, fun hm => by have := htb2 _ hm; omega⟩)
      have hO := Ua hO
      refine RTN ?_
      rw [ef]; exact ⟨hei, Xp (t := annT t _ ty0) rfl (hO.sub (Y := [b3, b4, b5]) (by intro j hj; simp at hj ⊢ <;> omega)).kd, h, g⟩
    replace h12 : t.kind ≠ 18 ∧ t.kind ≠ 19 := by simpa using h12
    refine IF (fun h16 => ?_) fun h16 => ?_
    · replace h16 : t.kind = 20 := Wrg h16
      obtain ⟨hl1, hall⟩ := sh20 h16 hx
      have ef := (st_20 (F := F) (S := S) h16).trans (ret_A hl1)
      refine AU ?_
      refine Xs [3, 3, 3, 0, 3, 3, 3, 0, 3, 3, 3, 0, 1, 2] [true, true, true, true, true, true, true, true, true, true, true, true, true, true] [0, 1, 3, 7, 0, 16, 48, 112, 240, 496, 1023, 2047, 0, 8191] mix (by kernel_rfl) ?_
      have g := gtd g
      replace E := E.dr
      have h := h.grow (G.drew _)
      have hk0 := hk0.grow (G.drew _)
      have hO := hO.grow (G.drew _)
      obtain ⟨fv, ms, mg, mn, mf, pv, sv, cv, rv, vs, sc, hK⟩ := id h
      obtain ⟨rk, rc, erv, _, hR⟩ := hK.res
      subst erv
      have hrl := hK.rl _ rfl
      have hlv := hb.lv
      have hnl := hb.nl
      have erl : (((r0.length + 1 : Nat) : Int) - 1).toNat = r0.length := by omega
      refine Zv J (Vy J (Xg Vx J (Xl Vw J (hK.B.at_ J) (Zv J (Vy J (Xg Vx J (Xl Vw J (hK.B.at_ J) (Yha Wf J (Zz J (fun _ => Xca (Zd J) Xa (fun _ => by omega)) (Xeb Wf J J (by omega) (Wm Zm J J (by rw [erl]; exact hR) (Xc J Xk J ?_))))))))))))
      intro b14 w14 N14
      have l14 := We N14 g.size
      have hp14 := h
      have hOp14 := hO
      have g := gtg g N14.g
      have h := h.grow (N14.g)
      have hk0 := hk0.grow (N14.g)
      have hO := hO.grow (N14.g)
      replace E := E.new N14
      have h := hp14.addX N14
      have hO := Ypa [b3, b4, b5, b14] w.heap.size w14
      refine AS fun _ ga Ca g E => ?_
      first | have h := h.keep ga Ca (by omega) (.inl rfl) | have h := h.keep ga Ca (by omega) (.inr ⟨by simp, fun hm => by have := htb2 _ hm; omega⟩)
      have hk0 := Ud hk0
      have hO := Ua hO
      refine AU ?_
      refine Xh (rowR none) [3, 0, 3, 3, 0, 3, 3, 3, 3, 0, 1] [0, 1, 3, 7, 0, 0, 48, 127, 0, 256, 1023] mix (by kernel_rfl) [0, 1, 2, 3, 4, 5, 6, 7, 8, 9, 10] J ?_
      have g := gtd g
      replace E := E.dr
      have h := h.grow (G.drew _)
      have hk0 := hk0.grow (G.drew _)
      have hO := hO.grow (G.drew _)
      refine Zx 0 J J (fun _ => Zi Zh (Zd J)) (Yi 1 J J (fun w1 hx => Zq Zg (Zd J) (fun _ => (E.g3.keep hx (fun h => nomatch h)).at_ J)) (Zx 2 J J (fun _ => Ysa Zc (Zd J)) (Zx 3 J J (fun _ => Qlc (Zd J) Xa) (Yi 4 J J (fun w1 hx => Zo Zm (Zd J) J (fun _ => (E.g0.keep hx (fun h => nomatch h)).row)) (Zx 5 J J (fun _ => Uv [_, _] Xk J Vm (Vj) J) (Zx 6 J J (fun _ => Zhd Wo (Zd J) (Zd J) J) (Zx 7 J J (fun _ => Zlg Wid (Zd J) (Zd J)) (Zx 8 J J (fun _ => Zi Xz (Zd J)) (Yi 9 J J (fun w1 hx => Zq Yf (Zd J) (fun _ => (E.g3.keep hx (fun h => nomatch h)).at_ J)) (Zt 10 J J ?_))))))))))
      refine Zn (L' := []) [3, 0, 3, 3, 0, 3, 3, 3, 3, 0, 1] J J J ?_
      refine Y3 J Ye J J J (Vf _ _ _ _) ((fun ch w' hz => Ul (h.sub (Y := X) htb.1 (by intro j hj; simp [hj])) he (by decide) (by rw [ef, Jyf hl1]; have := Zhe F t (failU (decide ((0 : Int) < t.kids.length) == !tyEqB S.result ty0) t.pos 7 S) 0 t.kids.length; rwa [Aoa] at this) hz g (Aaa _))) ?_
      rintro v292 w292 ⟨rfl, hq292, g292⟩
      refine ⟨fun _ => g292, ?_⟩
      have g := gtg g g292
      replace E := E.grow g292
      have h := h.grow (g292)
      have hk0 := hk0.grow (g292)
      have hO := hO.grow (g292)
      rw [Jyf hl1, show (decide ((0 : Int) < t.kids.length) == !tyEqB S.result ty0) = true from hq292] at ef
      replace ef : (ckT F t).st S = (annT t (retA F t S t.kids.length).1 ty0, (retA F t S t.kids.length).2) := ef
      refine Zy ((g292).only _) ?_
      refine TK [0, 3, 4, 5, 6, 14] ?_
      refine AU ?_
      have hnd2 := E.1
      refine Uy (fun (i : Nat) u2 => (i ≤ t.kids.length ∧ (retA F t S i).2.ee = 0 ∧ PC F n0 b TB (b14 :: X) r0 (retA F t S i).2 u2 ∧ ∃ s, Blk u2 b5 26 (ndCells (clnT t) s) ∧ OwnN [b3, b4, b5, b14] w.heap.size u2 (retA F t S i).1 s) ∧ GT (mutC X) n0 w u2) _ [(0, True, _), (4, True, _), (5, True, _), (6, True, _), (14, True, _), (294, True, _), (295, True, _)] (fun (i : Nat) => [(296, True, .int .i64 i)]) (fun (i : Nat) => t.kids.length - i) (0) ⟨⟨Aia _, he, h, _, E.g1, hO⟩, g⟩ (Yb (blkE E.g3) (Yb (blkE E.g2) (Yb (blkE E.g0) (Wd _)))) (Za J (Za J (Za J (Za J (Za J (Za J (Za J (Za J (Zr _))))))))) ?_
      clear E
      rintro i u2 ⟨hI2, gl2⟩ ⟨B3, B4, B14, _⟩
      replace B3 : Blk _ _ _ _ := B3
      replace B4 : Blk _ _ _ _ := B4
      replace B14 : Blk _ _ _ _ := B14
      have g := gl2
      obtain ⟨hi, hei, h, s, B5, hO⟩ := hI2
      obtain ⟨sa, sc, rfl⟩ := hO.slice
      have hk0 := hkw.gt gl2 (fun k h => h)
      have hlen := Vwd F t S i
      have hsi := Xje (F := F) (t := t) (Stp.refl S) i hi
      have E := Vma (L := [(b14, _, _), (b5, _, _), (b4, _, _), (b3, _, _)]) hnd2 ⟨B14, B5, B4, B3, trivial⟩ rfl
      refine IF (fun h17 => ?_) fun h17 => ?_
      · replace h17 : i < t.kids.length := by simp only [Wpg] at h17; omega
        obtain ⟨e0, p1, c1, hcell, hkid⟩ := Yq hk0 (i := i) h17
        have hci := hcS i h17
        have hbd := hsi.bd _ hb
        refine AU ?_
        refine Xc J Zs J ?_
        intro b16 w16 N16
        have l16 := We N16 g.size
        have hp16 := h
        have hOp16 := hO
        have g := gtg g N16.g
        have h := h.grow (N16.g)
        have hO := hO.grow (N16.g)
        have hkid := hkid.grow (N16.g)
        replace E := E.new N16
        have hO := hOp16.new N16
        refine AS fun _ ga Ca g E => ?_
        first | have h := h.keep ga Ca (by omega) (.inl rfl) | have h := h.keep ga Ca (by omega) (.inr ⟨by simp, fun hm => by have := htb2 _ hm; omega⟩)
        have hO := Ua hO
        have hkid := Ud hkid
        refine AU ?_
        have hOlt := hO.lt
        refine Y3 J Qa J J J (Ygb (KE i h17 (Vg hall h17)) (Vua F _) S.result [b3, b4, b5, b14, b16] h hei ((Xie hs hc i).can hc) hkid hbd (by omega) (E.ltm (by simp [selB])) g.size) ((fun ch w' hz => Bad.pass hz (by rw [ef]; have := Zhe F t S (i + 1) (t.kids.length - (i + 1)); rwa [show i + 1 + (t.kids.length - (i + 1)) = t.kids.length by omega] at this) (by rw [hsi.scope]; exact Aaa _) g)) ?_
        rintro v304 w304 ⟨⟨p304, c304, rfl, q304, k304⟩, he304, eW, h, g304⟩
        refine ⟨nw1, ?_⟩
        have g := gtw g g304
        replace E := E.gtx g304
        have hO := hO.gt g304 rfl
        rw [eW] at he304
        have ern : retA F t S (i + 1) = ((retA F t S i).1 ++ [((ckT F (Zb t i)).ex (retA F t S i).2).1], ((ckT F (Zb t i)).ex (retA F t S i).2).2) := by rw [retA, eW]
        refine Yc _ J Zc Zs (pqc J pq0) J J ?_
        intro b305 w305 N305
        have l305 := We N305 g.size
        have hp305 := h
        have hOp305 := hO
        have k304 := k304.new N305
        have B305 := N305.blk
        have g := gtg g N305.g
        replace E := E.grow N305.g
        have h := h.grow (N305.g)
        have hO := hO.grow (N305.g)
        have hOo := hO
        refine Xm J (Zu Yh (Zd J) (aqc J aq0) J) (Qf E.g2 hO (by simp) B305.row (Vt k304 q304 (by intro j hj; simp at hj ⊢ <;> omega) (fun j hj => .inr (hOlt j hj))) (by simp <;> omega) (by have := g.size; omega) ⟨by have := g.size; omega, fun hm => Aca _ (E.ltm (by simp [selB]) _ hm)⟩) ?_
        rintro v306 w306 ⟨rfl, a306, c306, z306, hO, hgA306, hgB306, BM306, BN306⟩
        refine ⟨nw1, ?_⟩
        replace E := E.keepX hgA306 hOo.ne (by simp [selB])
        replace E := E.s2 hgB306 BN306
        have g := Ve g hgA306 (fun k hk => hOo.ge k hk)
        have g := Yd g hgB306 (by omega)
        have h := h.keepO hgA306 hOo (by omega)
        have h := h.keep hgB306 BM306 (by omega) (.inl rfl)
        refine AU ?_
        refine SK [296, 0, 4, 5, 6, 14, 294, 295] ?_
        refine Ze (fun a ha => ?_)
        exact ⟨i + 1, ha, ⟨⟨h17, by rw [ern]; exact he304, by rw [ern]; exact h, _, E.g2, by rw [ern]; exact hO.sub (by intro j hj; simp at hj ⊢ <;> omega)⟩, g⟩, (Yb (blkE E.g4) (Yb (blkE E.g3) (Yb (blkE E.g1) (Wd _)))), by omega⟩
      replace h17 : i = t.kids.length := by simp only [Wqg] at h17; omega
      subst h17
      refine AS fun _ ga Ca g E => ?_
      first | have h := h.keep ga Ca (by omega) (.inl rfl) | have h := h.keep ga Ca (by omega) (.inr ⟨by simp, fun hm => by have := htb2 _ hm; omega⟩)
      have hO := Ua hO
      refine RTN ?_
      rw [ef]; exact ⟨hei, Xp (t := annT t _ ty0) rfl (hO.sub (Y := [b3, b4, b5]) (by intro j hj; simp at hj ⊢ <;> omega)).kd, h.sub htb.1 (by intro j hj; simp [hj]), g⟩
    replace h16 : t.kind ≠ 20 := Wsg h16
    refine IF (fun h18 => ?_) fun h18 => ?_
    · replace h18 : t.kind = 22 := Wrg h18
      have hall := sh22 h18 hx
      have ef : (ckT F t).st S = (annT t (selA t (ckX F t) S t.kids.length).1 ty0, (selA t (ckX F t) S t.kids.length).2.2) := st_22 h18
      refine AU ?_
      have hnd3 := E.1
      refine Uy (fun (i : Nat) u3 => (i ≤ t.kids.length ∧ (selA t (ckX F t) S i).2.2.ee = 0 ∧ PC F n0 b TB X (some r0) (selA t (ckX F t) S i).2.2 u3 ∧ ∃ s, Blk u3 b5 26 (ndCells (clnT t) s) ∧ OwnN [b3, b4, b5] w.heap.size u3 (selA t (ckX F t) S i).1 s) ∧ GT (mutC X) n0 w u3) _ [(0, True, _), (4, True, _), (5, True, _), (6, True, _), (311, True, _), (312, True, _)] (fun (i : Nat) => [(313, True, .int .i64 i), (17, True, .bool (!(selA t (ckX F t) S i).2.1))]) (fun (i : Nat) => t.kids.length - i) (0) ⟨⟨Aia _, he, h, _, E.g0, hO⟩, g⟩ (Yb (blkE E.g2) (Yb (blkE E.g1) (Wd _))) (Za J (Za J (Za J (Za J (Za J (Za J (Za J (Za J (Zr _))))))))) ?_
      clear E
      rintro i u3 ⟨hI3, gl3⟩ ⟨B3, B4, _⟩
      replace B3 : Blk _ _ _ _ := B3
      replace B4 : Blk _ _ _ _ := B4
      have g := gl3
      obtain ⟨hi, hei, h, s, B5, hO⟩ := hI3
      obtain ⟨sa, sc, rfl⟩ := hO.slice
      have hk0 := hkw.gt gl3 (fun k h => h)
      have hlen := Vxd t (ckX F t) S i
      have hsi := Vlc (Xzb F t) S i
      have E := Vma (L := [(b5, _, _), (b4, _, _), (b3, _, _)]) hnd3 ⟨B5, B4, B3, trivial⟩ rfl
      refine IF (fun h19 => ?_) fun h19 => ?_
      · replace h19 : i < t.kids.length := by simp only [Wpg] at h19; omega
        obtain ⟨e0, p1, c1, hcell, hkid⟩ := Yq hk0 (i := i) h19
        have hci := hcS i h19
        have hbd := hsi.bd _ hb
        have hsn := Yzf (F := F) (S := S) h19
        have hk2 := (sh23 (Vg hall h19)).2.1
        refine Yw (kq (Zj (Yx (Zj (Zl (Zma Zc J J (by omega) e0 (Wm Zf J J hcell (Xc J Zs J ?_))))))))
        intro b19 w19 N19
        have l19 := We N19 g.size
        have hp19 := h
        have hOp19 := hO
        have g := gtg g N19.g
        have h := h.grow (N19.g)
        have hO := hO.grow (N19.g)
        have hkid := hkid.grow (N19.g)
        replace E := E.new N19
        have hO := hOp19.new N19
        refine AS fun _ ga Ca g E => ?_
        first | have h := h.keep ga Ca (by omega) (.inl rfl) | have h := h.keep ga Ca (by omega) (.inr ⟨by simp, fun hm => by have := htb2 _ hm; omega⟩)
        have hO := Ua hO
        have hkid := Ud hkid
        refine Ze (kq (Zj (Zl (Zv J (Zv J (Wm Zf J J E.g0.row (Zv J (?_))))))))
        have hOlt := hO.lt
        refine Y3 J Jqa J J J (ChM.to (KC i h19 (Vg hall h19)) (selA t (ckX F t) S i).2.1 [b3, b4, b5, b19] h hei (Qgf hs hc i) hkid hbd (by omega) (E.ltm (by simp [selB])) g.size) ((fun ch w' hz => Bad.pass hz (by rw [ef]; have := Yve (Xzb F t) S (i + 1) (t.kids.length - (i + 1)); rwa [show i + 1 + (t.kids.length - (i + 1)) = t.kids.length by omega, hsn] at this) (by rw [hsi.scope]; exact Aaa _) g)) ?_
        rintro v321 w321 ⟨⟨p321, c321, rfl, q321, k321⟩, he321, h, g321⟩
        refine ⟨nw1, ?_⟩
        have g := gtw g g321
        replace E := E.gtx g321
        have hO := hO.gt g321 rfl
        have hkid := hkid.gt g321 (fun k h => h)
        refine Yc _ J Zc Zs (pqc J pq0) J J ?_
        intro b322 w322 N322
        have l322 := We N322 g.size
        have hp322 := h
        have hOp322 := hO
        have k321 := k321.new N322
        have B322 := N322.blk
        have g := gtg g N322.g
        replace E := E.grow N322.g
        have h := h.grow (N322.g)
        have hO := hO.grow (N322.g)
        have hkid := hkid.grow (N322.g)
        have hOo := hO
        refine Xm J (Zu Yh (Zd J) (aqc J aq0) J) (Qf E.g1 hO (by simp) B322.row (Vt k321 q321 (by intro j hj; simp at hj ⊢ <;> omega) (fun j hj => .inr (hOlt j hj))) (by simp <;> omega) (by have := g.size; omega) ⟨by have := g.size; omega, fun hm => Aca _ (E.ltm (by simp [selB]) _ hm)⟩) ?_
        rintro v323 w323 ⟨rfl, a323, c323, z323, hO, hgA323, hgB323, BM323, BN323⟩
        refine ⟨nw1, ?_⟩
        replace E := E.keepX hgA323 hOo.ne (by simp [selB])
        replace E := E.s1 hgB323 BN323
        have g := Ve g hgA323 (fun k hk => hOo.ge k hk)
        have g := Yd g hgB323 (by omega)
        have h := h.keepO hgA323 hOo (by omega)
        have h := h.keep hgB323 BM323 (by omega) (.inl rfl)
        have hkid := hkid.keep hgA323 (fun k hk _ e => by have := hOo.ge k e.symm; omega)
        have hkid := hkid.keep hgB323 (fun k hk _ e => by injection e with e; omega)
        refine Ze (kq (Zl (?_)))
        obtain ⟨e1, p2, c2, hcell2, hkid2⟩ := Yq hkid (i := 0) (by omega)
        have eb : (!(selA t (ckX F t) S i).2.1 || decide ((Zb (Zb t i) 0).kind = 9)) = !(selA t (ckX F t) S (i + 1)).2.1 := by rw [hsn]; cases (selA t (ckX F t) S i).2.1 <;> cases decide ((Zb (Zb t i) 0).kind = 9) <;> rfl
        refine Zv J (Zv J (Zk J J J (fun _ => Zi Zh (Zd J)) (Yg J J J (Zq Zg (Zp J id) (fun _ => E.g0.at_ J)) (Zk J J J (fun _ => Yv Zc (Zp J id) Xa (fun _ => by omega) (fun _ => e1)) (Zk J J J (fun _ => Zi Xi (Zp J id)) (Yg J J J (Zq Yf (Zp J id) (fun _ => hcell2.one (i := 0) J)) (Zk J J J (fun _ => Zoa (Zp J id) Xa) (Zz J (fun _ => Xd (Zd J) (Zp J id)) (Yr J (Ze (kq (Zl (Jga J J (by omega) (Zv J (Wx [(313, _, _), (17, _, _), (0, _, _), (4, _, _), (5, _, _), (6, _, _), (311, _, _), (312, _, _)] (Za J (Za J (Za J (Za J (Za J (Za J (Za J (Za J (Zr _))))))))) (Ze (fun a ha => ?_)))))))))))))))))
        rw [eb] at ha
        exact ⟨i + 1, ha, ⟨⟨h19, by rw [hsn]; exact he321, by rw [hsn]; exact h, _, E.g1, by rw [hsn]; exact hO.sub (by intro j hj; simp at hj ⊢ <;> omega)⟩, g⟩, (Yb (blkE E.g3) (Yb (blkE E.g2) (Wd _))), by omega⟩
      replace h19 : i = t.kids.length := by simp only [Wqg] at h19; omega
      subst h19
      refine AS fun _ ga Ca g E => ?_
      first | have h := h.keep ga Ca (by omega) (.inl rfl) | have h := h.keep ga Ca (by omega) (.inr ⟨by simp, fun hm => by have := htb2 _ hm; omega⟩)
      have hO := Ua hO
      refine RTN ?_
      rw [ef]; exact ⟨hei, Xp (t := annT t _ ty0) rfl hO.kd, h, g⟩
    replace h18 : t.kind ≠ 22 := Wsg h18
    refine IF (fun h20 => ?_) fun h20 => ?_
    · replace h20 : t.kind = 10 := Wrg h20
      have hb10 := sh10s h20 hx
      refine AU ?_
      refine Y2 J Zrb J J (CxM.to (KB hb10) [b3, b4, b5] h he hc hk0 hb hn (E.ltm (by simp [selB])) g.size) ((fun ch w' hz => Bad.pass hz (by rw [Vvd h20]; exact Er.refl _) (Aaa _) g)) ?_
      rintro v338 w338 ⟨⟨p338, c338, rfl, q338, k338⟩, he338, h, g338⟩
      refine ⟨nw1, ?_⟩
      have g := gtw g g338
      replace E := E.gtx g338
      refine AS fun _ ga Ca g E => ?_
      first | have h := h.keep ga Ca (by omega) (.inl rfl) | have h := h.keep ga Ca (by omega) (.inr ⟨by simp, fun hm => by have := htb2 _ hm; omega⟩)
      have k338 := k338.keep ga (by first | exact .inl (by omega) | exact .inr (by simp))
      refine RTN ?_
      rw [Vvd h20]; exact ⟨he338, Xp rfl (k338.kdN q338), h, g⟩
    exfalso
    replace h20 : t.kind ≠ 10 := Wsg h20
    have hx := (Asa.1 hx).1
    unfold stK at hx
    rw [Zbb] at hx
    simp only [List.mem_cons, List.not_mem_nil, or_false] at hx
    omega
    done
section
variable {F t:Nd} {S:CSt}
theorem ex_24(h:t.kind=24):(ckT F t).ex S=(annT t [] tInt,S):=by rw [Ykb];unfold exR;rw [h];rfl
theorem ex_25(h:t.kind=25):(ckT F t).ex S=(annT t [] tBool,S):=by rw [Ykb];unfold exR;rw [h];rfl
theorem ex_26(h:t.kind=26):(ckT F t).ex S=(annT t [] tNil,S):=by rw [Ykb];unfold exR;rw [h];rfl
theorem ex_38(h:t.kind=38)(hl:t.kids.length=1):(ckT F t).ex S=(annT t [((ckT F (Zb t 0)).blk (litS S)).1] tFunc,{ ((ckT F (Zb t 0)).blk (litS S)).2 with level:=((ckT F (Zb t 0)).blk (litS S)).2.level-1,result:=S.result }):=by
 rw [Ykb,← Wl (F:=F) (show 0<t.kids.length by omega)];unfold exR;rw [h];rfl
theorem ex_30(h:t.kind=30):(ckT F t).ex S=callR t (ckX F t) S:=by rw [Ykb];unfold exR;rw [h];rfl
theorem ex_27(h:t.kind=27):(ckT F t).ex S=((lookR F S t).1,bif (lookR F S t).2 then failU (Ux (lookR F S t).1.ty) t.pos 7 S else failS t.pos 5 S):=by rw [Ykb];unfold exR;rw [h];rfl
theorem ex_34(h:t.kind=34):(ckT F t).ex S=(annT t [] ⟨4,t.text⟩,failU (!decide ((findD F 2 t.text).2<0)) t.pos 5 S):=by rw [Ykb];unfold exR;rw [h];rfl
theorem Qhf{x:Nat→Ck}:memR F t x S=((annT t [((x 0).ex S).1] (fldR F ((x 0).ex S).1.ty t.text).1,(fldR F ((x 0).ex S).1.ty t.text).2.2),bif (fldR F ((x 0).ex S).1.ty t.text).2.1 then (bif (fldR F ((x 0).ex S).1.ty t.text).2.2 then ((x 0).ex S).2 else failS t.pos 5 ((x 0).ex S).2) else failS t.pos 7 ((x 0).ex S).2):=by
 unfold memR fldR;dsimp only;cases decide (((x 0).ex S).1.ty.kind=4);rfl;simp only [Wug];cases (Ut F ((x 0).ex S).1.ty.name).1.find? fun f=>decide (f.name=t.text) <;> rfl
theorem ex_28(h:t.kind=28)(hl:t.kids.length=1):(ckT F t).ex S=(annT t [((ckT F (Zb t 0)).ex S).1] (fldR F ((ckT F (Zb t 0)).ex S).1.ty t.text).1,failU (!((fldR F ((ckT F (Zb t 0)).ex S).1.ty t.text).2.2 && !Ux (fldR F ((ckT F (Zb t 0)).ex S).1.ty t.text).1)) t.pos 7
 (bif (fldR F ((ckT F (Zb t 0)).ex S).1.ty t.text).2.1 then (bif (fldR F ((ckT F (Zb t 0)).ex S).1.ty t.text).2.2 then ((ckT F (Zb t 0)).ex S).2 else failS t.pos 5 ((ckT F (Zb t 0)).ex S).2) else failS t.pos 7 ((ckT F (Zb t 0)).ex S).2)):=by
 rw [Ykb F t,Zee S h,Qhf,Wl (show 0<t.kids.length by omega)];rfl
theorem Ugc(h:t.kind=29∨t.kind=31∨t.kind=32∨t.kind=33∨t.kind=37∨t.kind=35∨t.kind=36):(ckT F t).ex S=opR t (ckX F t) S:=by
 rw [Ykb];unfold exR;rcases h with h|h|h|h|h|h|h <;> (rw [h];rfl)
theorem ex_29(h:t.kind=29)(hl:t.kids.length=2):(ckT F t).ex S=(annT t [((ckT F (Zb t 0)).ex S).1,((ckT F (Zb t 1)).ex (wantS ((ckT F (Zb t 0)).ex S).1 5 (Zb t 0).pos ((ckT F (Zb t 0)).ex S).2)).1] tInt,wantS ((ckT F (Zb t 1)).ex (wantS ((ckT F (Zb t 0)).ex S).1 5 (Zb t 0).pos ((ckT F (Zb t 0)).ex S).2)).1 1 (Zb t 1).pos ((ckT F (Zb t 1)).ex (wantS ((ckT F (Zb t 0)).ex S).1 5 (Zb t 0).pos ((ckT F (Zb t 0)).ex S).2)).2):=by
 rw [Ugc (.inl h),← Wl (F:=F) (show 0<t.kids.length by omega),← Wl (F:=F) (show 1<t.kids.length by omega)];unfold opR;rw [h];rfl
theorem ex_31(h:t.kind=31)(hl:t.kids.length=1):(ckT F t).ex S=(annT t [((ckT F (Zb t 0)).ex S).1] (unTy t),wantS ((ckT F (Zb t 0)).ex S).1 (unTy t).kind t.pos ((ckT F (Zb t 0)).ex S).2):=by
 rw [Ugc (.inr (.inl h)),← Wl (F:=F) (show 0<t.kids.length by omega)];unfold opR;rw [h];rfl
theorem ex_32(h:t.kind=32)(hl:t.kids.length=2):(ckT F t).ex S=(annT t [((ckT F (Zb t 0)).ex S).1,((ckT F (Zb t 1)).ex ((ckT F (Zb t 0)).ex S).2).1] (binT t.text ((ckT F (Zb t 0)).ex S).1.ty ((ckT F (Zb t 1)).ex ((ckT F (Zb t 0)).ex S).2).1.ty).1,failU (binT t.text ((ckT F (Zb t 0)).ex S).1.ty ((ckT F (Zb t 1)).ex ((ckT F (Zb t 0)).ex S).2).1.ty).2 t.pos 7 ((ckT F (Zb t 1)).ex ((ckT F (Zb t 0)).ex S).2).2):=by
 rw [Ugc (.inr (.inr (.inl h))),← Wl (F:=F) (show 0<t.kids.length by omega),← Wl (F:=F) (show 1<t.kids.length by omega)];unfold opR;rw [h];rfl
theorem ex_33(h:t.kind=33)(hl:t.kids.length=1):(ckT F t).ex S=(annT t [((ckT F (Zb t 0)).ex S).1] tInt,wantS ((ckT F (Zb t 0)).ex S).1 6 t.pos ((ckT F (Zb t 0)).ex S).2):=by
 rw [Ugc (.inr (.inr (.inr (.inl h)))),← Wl (F:=F) (show 0<t.kids.length by omega)];unfold opR;rw [h];rfl
theorem ex_37(h:t.kind=37)(hl:t.kids.length=1):(ckT F t).ex S=(annT t [((ckT F (Zb t 0)).ex S).1] tInt,wantS ((ckT F (Zb t 0)).ex S).1 5 (Zb t 0).pos ((ckT F (Zb t 0)).ex S).2):=by
 rw [Ugc (.inr (.inr (.inr (.inr (.inl h))))),← Wl (F:=F) (show 0<t.kids.length by omega)];unfold opR;rw [h];rfl
theorem ex_35(h:t.kind=35)(hl:t.kids.length=1):(ckT F t).ex S=(annT t [((ckT F (Zb t 0)).ex S).1] ⟨5,[]⟩,wantS ((ckT F (Zb t 0)).ex S).1 1 (Zb t 0).pos ((ckT F (Zb t 0)).ex S).2):=by
 rw [Ugc (.inr (.inr (.inr (.inr (.inr (.inl h)))))),← Wl (F:=F) (show 0<t.kids.length by omega)];unfold opR;rw [h];rfl
theorem ex_36(h:t.kind=36)(hl:t.kids.length=1):(ckT F t).ex S=(annT t [((ckT F (Zb t 0)).ex S).1] ⟨6,[]⟩,wantS ((ckT F (Zb t 0)).ex S).1 1 (Zb t 0).pos ((ckT F (Zb t 0)).ex S).2):=by
 rw [Ugc (.inr (.inr (.inr (.inr (.inr (.inr h)))))),← Wl (F:=F) (show 0<t.kids.length by omega)];unfold opR;rw [h];rfl
end
theorem RowAt.kb{w w':Aa}{b o j:Nat}{l:List Da}(h:RowAt w b o l)(hg:w.grownBy w' (some j))(hne:b≠j):RowAt w' b o l:=fun i v hi =>
 (Fa (hg.block _ (Ea w _ (h i v hi)) (fun e=>hne (by injection e)))).trans (h i v hi)
structure GTO (M:Nat→Nat→Bool) (n0:Nat) (L:List Nat) (w w':Aa):Prop where
  os:w'.os=w.os
  tape:w'.tape=w.tape
  output:w'.output=w.output
  size:w.heap.size≤w'.heap.size
  block:∀ k,k<w.heap.size→k∉L→(k<n0∨¬ TyR M w k)→w'.heap[k]? = w.heap[k]?
section
variable {M:Nat→Nat→Bool} {n0:Nat} {L:List Nat} {w w':Aa}
theorem GTO.refl(w:Aa):GTO M n0 L w w:=⟨rfl,rfl,rfl,Aaa _,fun _ _ _ _=>rfl⟩
theorem GTO.trans{u v w:Aa}(h:GTO M n0 L u v)(k:GTO M n0 L v w):GTO M n0 L u w :=
 ⟨k.os.trans h.os,k.tape.trans h.tape,k.output.trans h.output,Aka h.size k.size,fun i hi hn hb=>by
 have e:=h.block i hi hn hb;refine (k.block i (Nat.lt_of_lt_of_le hi h.size) hn (hb.imp id fun hb hr=>hb ?_)).trans e;obtain ⟨cs,f,fr,hr,hm⟩:=hr;exact ⟨cs,f,fr,e.symm.trans hr,hm⟩⟩
theorem GTO.of_gt(g:GT M n0 w w'):GTO M n0 L w w':=⟨g.os,g.tape,g.output,g.size,fun k hk _ hb=>g.block k hk hb⟩
theorem GTO.of_g(g:G w w'):GTO M n0 L w w':=GTO.of_gt (GT.of_g g)
theorem GTO.of_row{b:Nat}(hg:w.grownBy w' (some b))(hb:b∈L):GTO M n0 L w w':=⟨hg.os,hg.tape,hg.output,hg.size,fun k hk hn _=>hg.block k hk fun e=>hn (by injection e with e;rw [e];exact hb)⟩
theorem Blk.gto{b:Nat}{e:TypeId}{l:List Da}(h:Blk w b e l)(g:GTO M n0 L w w')(he:M e=fun _=>false)(hn:b∉L):Blk w' b e l:=(g.block b h.lt hn (.inr (Wdb h he))).trans h
theorem RowAt.gto{b o:Nat}{l:List Da}(h:RowAt w b o l)(g:GTO M n0 L w w')(hb:b<n0)(hn:b∉L):RowAt w' b o l:=fun i v hi =>
 (Fa (g.block b (Ea w _ (h i v hi)) hn (.inl hb))).trans (h i v hi)
end
@[reducible] def gtoR(X:List Nat)(n0:Nat)(L:List Nat):RelX:=⟨fun w w'=>GTO (mutC X) n0 L w w',GTO.refl,fun h k=>GTO.trans h k⟩
theorem bad_5{F:Nd}{n0 b:Nat}{TB X:List Nat}{r0:List Ty}{S T:CSt}{w w0 w1:Aa}{a:Int}{ch:List Ba}(h:PC F n0 b TB X (some r0) S w)(he:S.ee=0)(hE:Er (failS a 5 S) T)(h1:ch=[failE a 5])(h2:G w w1)(g:GT (mutC X) n0 w0 w):Bad n0 b X (S.scope+1) T w0 ch w1 :=
 Ul (q:=false) h he Od hE ⟨rfl,h1,h2⟩ g (Aaa _)
theorem Xid{F t:Nd}(HS:CxM 1000001 F 57 t (ckT F t).sts){n0 b:Nat}{TB X:List Nat}{r0:List Ty}{S:CSt}{w:Aa}{v:Da}{N m0:Nat}(Z:List Nat)(h:PC F n0 b TB X (some r0) S w)(he:S.ee=0)(hc:CanV S)(hk:Kd w (fun k=>k<n0) t.kids v)(hb:Bd S N)(hn:N+count t+1≤1000000)(hZ:∀ j∈Z,j<w.heap.size)(hm:m0≤w.heap.size) :
 RetP PP 137 #[.pointer (some ⟨b,0,none⟩),ndV t v,tyV ty0] w (fun r w'=>(∃ p c,r=ndV ((ckT F t).blk (litS S)).1 (.slice p ((ckT F t).blk (litS S)).1.kids.length c)∧m0≤w.heap.size∧KdX w.heap.size Z w' ((ckT F t).blk (litS S)).1.kids (.slice p ((ckT F t).blk (litS S)).1.kids.length c))∧((ckT F t).blk (litS S)).2.ee=0∧PC F n0 b TB X (some r0) { ((ckT F t).blk (litS S)).2 with level:=((ckT F t).blk (litS S)).2.level-1,result:=S.result } w'∧GT (mutC X) n0 w w') (Bad n0 b X (S.scope+1) ((ckT F t).blk (litS S)).2 w) :=
 (Xfd HS h he hc hk hb hn).mono (fun r w' hr=>by
 obtain ⟨h0,⟨p,c,e,k⟩,h1,h2⟩:=hr;exact ⟨⟨p,c,e,hm,KdN.x k hZ⟩,h0,h1,h2⟩) fun _ _ h=>h
end Go.Rk
