/- Merged texts of one road: CkR, Cqb, Cqc, Cpv, Cqd, Cqe, CkS, CkT, CkV, FldA, FldB, Rtd, FldC, FldD, FldF, FldG, Fck, Fcl, Fcm, Fcn, Fco, CkU, CkW, CkZ, Cqf, Cpb. Conditions: each text's own. -/
import Derived.Test.YtapkdoacegpgaaaGreatDoorA02
import Derived.Test.YtapkdoacegpgaaaGreatDoorA05
import Derived.Test.YtapkdoacegpgaaaGreatDoorA04
import Derived.Test.YtapkdoacegpgaaaGreatDoorA03
set_option linter.unusedSimpArgs false
set_option linter.unusedVariables false
namespace Go.Proofs
end Go.Proofs
namespace Go.Rk
open Go.Proofs
open Go Go.RowKit
set_option maxHeartbeats 4000000
theorem Vz{w w':World}{b o j:Nat}{l:List Value}(h:RowAt w b o l)(hg:w.grownBy w' (some j))(hj:b≠j):RowAt w' b o l:=fun i v hi=>by
 have h1:=h i v hi;exact (World.cell?_of_block (hg.block b (World.block_lt_of_cell? w _ h1) fun e=>by injection e with e;exact hj e)).trans h1
theorem Ule(t:Nd)(x:Nat→Ck)(S:CSt):∀ i,(selA t x S i).1.length=i
 | 0=>rfl
 | i+1=>by
  show ((selA t x S i).1++[_]).length=_;rw [List.length_append,Ule t x S i];rfl
def casA(F c:Nd)(first:Bool)(S:CSt):Nd×CSt:=bif decide ((Zb c 0).kind=9) then (clnT (Zb c 0),failU first c.pos 6 (openS S)) else (ckT F (Zb c 0)).st (openS S)
theorem Yfh{F c:Nd}(hl:c.kids.length=2)(first:Bool)(S:CSt):(ckT F c).cas first S=(annT c [(casA F c first S).1,((ckT F (Zb c 1)).sts (casA F c first S).2).1] ty0,shutS ((ckT F (Zb c 1)).sts (casA F c first S).2).2):=by
 rw [Yxa];show casR c (ckX F c) first S=_;unfold casR;rw [Vv (show 0<c.kids.length by omega),Vv (show 1<c.kids.length by omega)];rfl
theorem Ume(F c:Nd)(first:Bool)(S:CSt):Stp (count (Zb c 0)) (openS S) (casA F c first S).2:=by
 unfold casA;cases decide ((Zb c 0).kind=9);exact (Wbb F (Zb c 0)).st _;exact ((Stp.refl _).failu _ _ _).mono (Nat.zero_le _)
theorem Uwg{S:CSt}{N:Nat}(hb:Bd S N):Bd (openS S) (N+1) :=
 ⟨by have:=hb.vl;show S.vars.length≤_;omega,by have:=hb.nl;show S.next.length≤_;omega,fun k hk=>by have:=hb.nx k hk;omega,hb.lv,by have:=hb.sc;show S.scope+1≤_;omega,fun v hv=>by have:=hb.vs v hv;omega⟩
theorem Zqf{F t:Nd}(K:∀ i,i<t.kids.length→∀ j,j<(Zb t i).kids.length→CkOk F (Zb (Zb t i) j))(hk22:t.kind=22)(hx:stmtB t=true):CkC F Wea t (selR t (ckX F t)):=by
 intro n0 b S w v N h hkw hb hcn;have hall:=sh22 hk22 hx;obtain ⟨p,c,rfl,_⟩:=id hkw;have hlt:=h.lt;have hln:=Wz t;have g:=GT.refl mutR n0 w;refine WK 81 [0,1] Jca ?_;refine BM fun b3 _ ga _ g E=>?_;have h:=Ui h;refine AN fun b4 _ ga _ g E=>?_;have h:=Ui h;refine AU ?_;refine CL (Vq t _ _ _) ?_;rintro _ _ ⟨rfl,ga⟩;refine RC fun g E=>?_;have h:=Uk h;refine AN fun b5 _ ga _ g E=>?_;have h:=Ui h;refine AS fun _ ga Ca g E=>?_;have h:=Ub h;refine AU ?_;have hnd1:=E.1;refine Xo (fun (i:Nat) u1=>(i≤t.kids.length∧Chk F n0 b (selA t (ckX F t) S i).2.2 u1∧∃ s,Blk u1 b5 Ys (ndCells (clnT t) s)∧OwnN [b3,b4,b5] w.heap.size u1 (selA t (ckX F t) S i).1 s)∧GT mutR n0 w u1) _ [(0,True,_),(3,True,_),(4,True,_),(5,True,_)] (fun (i:Nat)=>[(6,True,.bool (selA t (ckX F t) S i).2.1),(7,True,.int .i64 i)]) (fun (i:Nat)=>t.kids.length-i) (0) ⟨⟨Nat.zero_le _,h,_,E.g0,Wqa _ _ _⟩,g⟩ (Zs (blkE E.g2) (Zs (blkE E.g1) (Zz _))) (Za O (Za O (Za O (Za O (Za O (Za O (Zo _))))))) ?_;clear E;rintro i u1 ⟨hI1,gl1⟩ ⟨B3,B4,_⟩;replace B3:Blk _ _ _ _:=B3;replace B4:Blk _ _ _ _:=B4;have g:=gl1;obtain ⟨hi,h,s,B5,hO⟩:=hI1;obtain ⟨sa,sc,rfl⟩:=hO.slice;have hk0:=hkw.gt gl1 (fun k h=>h);have hmu:u1.heap.size≤u1.heap.size:=Nat.le_refl _;have E:=Jo (L:=[(b5,_,_),(b4,_,_),(b3,_,_)]) hnd1 ⟨B5,B4,B3,trivial⟩ rfl;refine IF (fun h1=>?_) fun h1=>?_;replace h1:i<t.kids.length:=by simp only [decide_eq_true_eq] at h1;omega
 obtain ⟨e0,p1,c1,hcell,hkid⟩:=Yl hk0 (i:=i) h1;have hDp:pb p<n0:=Wca hk0 h1;have hcs:=Uu hall h1;obtain ⟨hk23,hl2,hcm,hbl⟩:=sh23 hcs;obtain ⟨eg,pg0,cg0,hcg0,hkg0⟩:=Yl hkid (i:=0) (by omega);obtain ⟨_,pg1,cg1,hcg1,hkg1⟩:=Yl hkid (i:=1) (by omega);have hDg:pb p1<n0:=Wca hkid (show 0<(Zb t i).kids.length by omega);have hc2:=cn2 hl2;have Qa:=K i h1 0 (by omega);have Qb:=K i h1 1 (by omega);have xi:ckX F t i=ckT F (Zb t i):=Vv h1;have hbd:=(Wzd (Yfg F t) S i).bd _ hb;have hsc:=Vza t (i+1);have hcN:=Ucc h1;have hsc1:sC t (i+1)=sC t i+cN t i:=rfl;have hbo:=Uwg hbd;have hba:=(Ume F (Zb t i) (selA t (ckX F t) S i).2.1 (selA t (ckX F t) S i).2.2).bd _ hbo;have hsb:=(Wbb F (Zb (Zb t i) 1)).sts (casA F (Zb t i) (selA t (ckX F t) S i).2.1 (selA t (ckX F t) S i).2.2).2;have hbb:=hsb.bd _ hba;have hs0:=hbd.sc;have hs1:1≤((ckT F (Zb (Zb t i) 1)).sts (casA F (Zb t i) (selA t (ckX F t) S i).2.1 (selA t (ckX F t) S i).2.2).2).2.scope:=by rw [hsb.scope,(Ume F (Zb t i) (selA t (ckX F t) S i).2.1 (selA t (ckX F t) S i).2.2).scope];exact Nat.le_add_left 1 _
 have hs2:((ckT F (Zb (Zb t i) 1)).sts (casA F (Zb t i) (selA t (ckX F t) S i).2.1 (selA t (ckX F t) S i).2.2).2).2.scope≤100000000:=by have:=hbb.sc;omega
 have hs3:((ckT F (Zb (Zb t i) 1)).sts (casA F (Zb t i) (selA t (ckX F t) S i).2.1 (selA t (ckX F t) S i).2.2).2).2.vars.length≤100000000:=by have:=hbb.vl;omega
 have hOlt:=hO.lt;have hlen:=Ule t (ckX F t) S i
 have ea:selA t (ckX F t) S (i+1)=((selA t (ckX F t) S i).1++[((ckT F (Zb t i)).cas (selA t (ckX F t) S i).2.1 (selA t (ckX F t) S i).2.2).1],(selA t (ckX F t) S i).2.1 && !decide ((Zb (Zb t i) 0).kind=9),((ckT F (Zb t i)).cas (selA t (ckX F t) S i).2.1 (selA t (ckX F t) S i).2.2).2):=by
  show ((selA t (ckX F t) S i).1++[((ckX F t i).cas (selA t (ckX F t) S i).2.1 (selA t (ckX F t) S i).2.2).1],_,_)=_;rw [xi]
 rw [Yfh hl2] at ea;refine AU ?_;refine CL (Vq (Zb t i) _ _ _) ?_;rintro _ _ ⟨rfl,ga⟩;refine RC fun g E=>?_;have h:=Uk h;have hcell:=Uk hcell;have hcg0:=Uk hcg0;have hkg0:=Uk hkg0;have hcg1:=Uk hcg1;have hkg1:=Uk hkg1;have hO:=Uk hO;have hmu:=Nat.le_trans hmu ((ga)).size;refine AN fun b8 _ ga _ g E=>?_;have hO:=Uj hO;have y8:=Nat.le_trans hmu (Nat.le_of_eq ga.at_.symm);have h:=Ui h;have hcell:=Ui hcell;have hcg0:=Ui hcg0;have hkg0:=Ui hkg0;have hcg1:=Ui hcg1;have hkg1:=Ui hkg1;have hmu:=Nat.le_trans hmu ((ga.g)).size;refine AS fun _ ga Ca g E=>?_;have h:=Ub h;have hkg0:=Ud hkg0;have hkg1:=Ud hkg1;have hcell:=Uh hcell;have hcg0:=Uh hcg0;have hcg1:=Uh hcg1;have hO:=Ue hO;have hmu:=Nat.le_trans hmu ga.size;refine AN fun b9 _ ga _ g E=>?_;have hO:=Uj hO;have y9:=Nat.le_trans hmu (Nat.le_of_eq ga.at_.symm);have h:=Ui h;have hcell:=Ui hcell;have hcg0:=Ui hcg0;have hkg0:=Ui hkg0;have hcg1:=Ui hcg1;have hkg1:=Ui hkg1;have hmu:=Nat.le_trans hmu ((ga.g)).size;refine AS fun _ ga Ca g E=>?_;have h:=Ub h;have hkg0:=Ud hkg0;have hkg1:=Ud hkg1;have hcell:=Uh hcell;have hcg0:=Uh hcg0;have hcg1:=Uh hcg1;have hO:=Ue hO;have hmu:=Nat.le_trans hmu ga.size;refine AU ?_;refine CL (Ude h (by omega)) ?_;rintro _ _ ⟨rfl,h,ga⟩;refine RC fun g E=>?_;have hcell:=hcell.gt ga hDp;have hcg0:=hcg0.gt ga hDg;have hkg0:=Um hkg0;have hcg1:=hcg1.gt ga hDg;have hkg1:=Um hkg1;have hO:=hO.gt ga rfl;have hmu:=Nat.le_trans hmu (ga).size;refine IF (fun h2=>?_) fun h2=>?_;replace h2:(Zb (Zb t i) 0).kind=9:=of_decide_eq_true h2;refine IF (fun h3=>?_) fun h3=>?_;have hf:(selA t (ckX F t) S i).2.1=false:=by simpa using h3
 refine AU ?_;refine CL (Wi (Zb t i).pos 6 h) ?_;rintro _ _ ⟨rfl,h,ga⟩;refine RC fun g E=>?_;have hcell:=hcell.gt ga hDp;have hcg0:=hcg0.gt ga hDg;have hcg1:=hcg1.gt ga hDg;have hkg1:=Um hkg1;have hO:=hO.gt ga rfl;have hmu:=Nat.le_trans hmu (ga).size;have eA:casA F (Zb t i) (selA t (ckX F t) S i).2.1 (selA t (ckX F t) S i).2.2=(clnT (Zb (Zb t i) 0),failS (Zb t i).pos 6 (openS (selA t (ckX F t) S i).2.2)):=by unfold casA;rw [Weh h2,hf];rfl
 have eB:(casA F (Zb t i) (selA t (ckX F t) S i).2.1 (selA t (ckX F t) S i).2.2).2=failS (Zb t i).pos 6 (openS (selA t (ckX F t) S i).2.2):=by rw [eA]
 rw [← eB] at h;refine AU ?_;refine CL (Vq (Zb (Zb t i) 0) _ _ _) ?_;rintro _ _ ⟨rfl,ga⟩;refine RC fun g E=>?_;have h:=Uk h;have hcell:=Uk hcell;have hcg0:=Uk hcg0;have hcg1:=Uk hcg1;have hkg1:=Uk hkg1;have hO:=Uk hO;have hmu:=Nat.le_trans hmu ((ga)).size;refine CN fun b50 _ ga l50 g E=>?_;have hO:=Uj hO;have y50:=Nat.le_trans hmu (Nat.le_of_eq ga.at_.symm);have h:=Ui h;have hcell:=Ui hcell;have hcg0:=Ui hcg0;have hcg1:=Ui hcg1;have hkg1:=Ui hkg1;have hmu:=Nat.le_trans hmu ((ga.g)).size;have x50_9:=E.ne 0 1 rfl rfl rfl;have x50_8:=E.ne 0 2 rfl rfl rfl;have x50_5:=E.ne 0 3 rfl rfl rfl;have x50_4:=E.ne 0 4 rfl rfl rfl;have x50_3:=E.ne 0 5 rfl rfl rfl;have hA:OwnN [b3,b4,b5,b8,b9] u1.heap.size _ [clnT (Zb (Zb t i) 0)] (.slice (some ⟨b50,0,none⟩) 1 1):=Jc E.g0 y50 (show Kd _ _ (clnT (Zb (Zb t i) 0)).kids (.slice none 0 0) from Qta _ _) ⟨⟨y50,by simp;omega⟩,Xa E.g0⟩;obtain ⟨bq,hbq⟩:∃ x,x=b50:=⟨_,rfl⟩;refine AS fun _ ga Ca g E=>?_;have h:=Ub h;have hkg1:=Ud hkg1;have hcell:=Uh hcell;have hcg0:=Uh hcg0;have hcg1:=Uh hcg1;have hO:=Ue hO;have hA:=Ue hA;have hmu:=Nat.le_trans hmu ga.size;refine AU ?_;refine Xu (gtR n0) [3,0,3,3,0,3,3,3,0,3,0,1,1,2,3,2] [0,1,0,0,8,0,56,120,248,504,1016,2044,4092,8191,16383,32767] mix (by kernel_rfl) [0,1,2,3,4,5,6,7,8,9,10,11,12,13,14,15] O ?_;have g:=gtd g;replace E:=E.dr;have h:=h.grow (G.drew _);have hcell:=hcell.grow (G.drew _);have hcg1:=hcg1.grow (G.drew _);have hkg1:=hkg1.grow (G.drew _);have hO:=hO.grow (G.drew _);have hA:=hA.grow (G.drew _);have hmu:=Nat.le_trans hmu ((G.drew _)).size
 refine Zx 0 O O (fun _=>Zn Zg (Zd O)) (Wh 1 O O (fun w1 hx=>Zw Zf (Zd O) (fun _=>(E.g2.gt hx O).at_ O)) (Zx 2 O O (fun _=>Zl (Zd O)) (Zx 3 O O (fun _=>Zn Zg (Zd O)) (Wh 4 O O (fun w1 hx=>Zw Zf (Zd O) (fun _=>(E.g5.gt hx O).at_ O)) (Zx 5 O O (fun _=>Zl (Zd O)) (Zx 6 O O (fun _=>Xb Zc (Zd O) (Zd O) (fun _=>by omega) (fun _=>e0)) (Zx 7 O O (fun _=>Zn Zg (Zd O)) (Wh 8 O O (fun w1 hx=>Zw Zf (Zd O) (fun _=>(hcell.gt hx hDp).one (i:=4) O)) (Zx 9 O O (fun _=>Xb Zc (Zd O) Xg (fun _=>by omega) (fun _=>eg)) (Wh 10 O O (fun w1 hx=>Zy Zh (Zd O) O (fun _=>hcg1.gt hx hDg)) (Zu 11 O O ?_)))))))))));refine Zv (L':=[12,13,14,15]) [3,0,3,3,0,3,3,3,0,3,0,2,1,2,3,2] O O O ?_;refine CL (CkC.to (Qb.sts hbl) [b3,b4,b5,b8,b9,bq] h hkg1 hba (by omega) (List.forall_mem_cons.2 ⟨E.g5.lt,(List.forall_mem_cons.2 ⟨E.g4.lt,(List.forall_mem_cons.2 ⟨E.g3.lt,(List.forall_mem_cons.2 ⟨E.g2.lt,(List.forall_mem_cons.2 ⟨E.g1.lt,(List.forall_mem_cons.2 ⟨by rw [hbq];first|exact E.g0.lt|exact B55.lt,(List.forall_mem_nil _)⟩)⟩)⟩)⟩)⟩)⟩) hmu) ?_;rintro v68 w68 ⟨⟨p68,c68,rfl,q68,k68⟩,h,g68⟩;refine ⟨nw1,?_⟩;have g:=g.trans g68;replace E:=E.gt g68 rfl;have hO:=hO.gt g68 rfl;have hA:=hA.gt g68 rfl;have hmu:=Nat.le_trans hmu (g68).size;refine Yj (g68) ?_;refine Zu 12 O O ?_;refine Zv (L':=[13,14,15]) [3,0,3,3,0,3,3,3,0,3,0,2,1,2,3,2] O O O ?_;refine CN fun _ _ N69 l69 g E=>?_;have k68:=k68.new N69;have hO:=hO.new N69;have hA:=hA.new N69;have y69:=Nat.le_trans hmu (Nat.le_of_eq N69.at_.symm);have h:=h.grow (N69.g);have hmu:=Nat.le_trans hmu ((N69.g)).size;have x69_50:=E.ne 0 1 rfl rfl rfl;refine Yj (GT.of_g (N69.g)) ?_;refine Zu 13 O O ?_
 refine Ye (L':=[14,15]) [3,0,3,3,0,3,3,3,0,3,0,2,1,2,3,2] O O O O ?_;have hOo:=hA;refine Xx O Zc Zt O (Zd O) hA (Zd O) O E.g0.row (Ql k68 q68 (by intro j hj;simp at hj ⊢;omega) (fun j hj=>by first|(obtain rfl:b50=j:=(by injection hj);rw [← hbq];simp)|(obtain rfl:b55=j:=(by injection hj);rw [← hbq];simp))) (by simp) (by have:=g.size;omega) ⟨by have:=g.size;omega,by have q3:=E.g6.lt;have q4:=E.g5.lt;have q5:=E.g4.lt;have q8:=E.g3.lt;have q9:=E.g2.lt;have q69:=E.g0.lt;simp;omega⟩ ?_;intro a70 c70 w70 hA hg70;replace E:=E.sel [true,false,true,true,true,true,true];replace E:=E.keepX hg70 hOo.ne (by simp [selB]);have g:=Ww g hg70 (fun k hk=>Nat.le_trans gl1.size (hOo.ge k hk));have h:=h.keepO hg70 hOo (by have:=gl1.size;omega);have hmu:=Nat.le_trans hmu hg70.size;try first|have hO:=hO.keep (b:=b50) hg70 (by simp)|have hO:=hO.keep (b:=b55) hg70 (by simp)
 refine Yy ?_;refine Zx 14 O O (fun _=>Zn Zg (Zd O)) (Zu 15 O O ?_);refine Ye (L':=[]) [3,0,3,3,0,3,3,3,0,3,0,2,1,2,3,2] O O O O ?_;refine AS fun _ ga Ca g E=>?_;have h:=Ub h;have hO:=Ue hO;have hA:=Ue hA;have hmu:=Nat.le_trans hmu ga.size;refine Yy ?_;refine TK [0,3,4,5,6,7,8] ?_;refine AU ?_;refine CL (Udc h hs2 hs1 hs3) ?_;rintro _ _ ⟨rfl,h,ga⟩;refine RC fun g E=>?_;have hO:=hO.gt ga rfl;have hA:=hA.gt ga rfl;have hmu:=Nat.le_trans hmu (ga).size;refine AU ?_;have hO:=hO.sub (Y:=[b3,b4,b5,b8]) (by intro j hj;simp at hj ⊢;omega);refine CN fun _ _ ga l77 g E=>?_;have hO:=Uj hO;have hA:=Uj hA;have y77:=Nat.le_trans hmu (Nat.le_of_eq ga.at_.symm);have h:=Ui h;have hmu:=Nat.le_trans hmu ((ga.g)).size;have hOo:=hO;refine Xx O Zc Zt O (Zd O) hO (Zd O) O E.g0.row (Yc (t:=annT (Zb t i) [_,_] ty0) (OwnK.kd hA fun k hb=>⟨⟨⟨by have:=hb.1.1;have:=gl1.size;omega,by have:=hb.1.2;simp at this ⊢;omega⟩,hb.2⟩,by intro e;have:=hOlt k e.symm;have:=hb.1.1;omega⟩)) (by simp;omega) (by have:=g.size;omega) ⟨by have:=g.size;omega,by have q3:=E.g6.lt;have q4:=E.g5.lt;have q5:=E.g4.lt;have q8:=E.g3.lt;have q77:=E.g0.lt;simp;omega⟩ ?_;intro a78 c78 w78 hO hg78;replace E:=E.sel [true,false,false,true,true,true,true];replace E:=E.keepX hg78 hOo.ne (by simp [selB]);have g:=Ww g hg78 (fun k hk=>hOo.ge k hk);have h:=h.keepO hg78 hOo (by have:=gl1.size;omega);have hmu:=Nat.le_trans hmu hg78.size;refine AS fun _ ga Ca g E=>?_;have h:=Ub h;have hO:=Ue hO;have hmu:=Nat.le_trans hmu ga.size;refine AU ?_;refine SK [6,7,0,3,4,5] ?_;refine Ze (fun a ha=>?_)
 have e6:(selA t (ckX F t) S (i+1)).2.1=false:=by rw [ea];show ((selA t (ckX F t) S i).2.1 && !decide ((Zb (Zb t i) 0).kind=9))=false;rw [Weh h2];simp
 have e1A:=congrArg Prod.fst eA;have hO:=hO.sub (Y:=[b3,b4,b5]) (by intro j hj;simp at hj ⊢;omega);exact ⟨i+1,by rw [e6];exact ha,⟨⟨h1,by rw [ea];exact h,_,E.g2,by rw [ea,e1A];exact hO⟩,g⟩,(Zs (blkE E.g4) (Zs (blkE E.g3) (Zz _))),by omega⟩;have hf:(selA t (ckX F t) S i).2.1=true:=by simpa using h3
 have eA:casA F (Zb t i) (selA t (ckX F t) S i).2.1 (selA t (ckX F t) S i).2.2=(clnT (Zb (Zb t i) 0),openS (selA t (ckX F t) S i).2.2):=by unfold casA;rw [Weh h2,hf];rfl
 have eB:(casA F (Zb t i) (selA t (ckX F t) S i).2.1 (selA t (ckX F t) S i).2.2).2=openS (selA t (ckX F t) S i).2.2:=by rw [eA]
 rw [← eB] at h;refine AU ?_;refine CL (Vq (Zb (Zb t i) 0) _ _ _) ?_;rintro _ _ ⟨rfl,ga⟩;refine RC fun g E=>?_;have h:=Uk h;have hcell:=Uk hcell;have hcg0:=Uk hcg0;have hcg1:=Uk hcg1;have hkg1:=Uk hkg1;have hO:=Uk hO;have hmu:=Nat.le_trans hmu ((ga)).size;refine CN fun b50 _ ga _ g E=>?_;have hO:=Uj hO;have y50:=Nat.le_trans hmu (Nat.le_of_eq ga.at_.symm);have h:=Ui h;have hcell:=Ui hcell;have hcg0:=Ui hcg0;have hcg1:=Ui hcg1;have hkg1:=Ui hkg1;have hmu:=Nat.le_trans hmu ((ga.g)).size;have x50_9:=E.ne 0 1 rfl rfl rfl;have x50_8:=E.ne 0 2 rfl rfl rfl;have x50_5:=E.ne 0 3 rfl rfl rfl;have x50_4:=E.ne 0 4 rfl rfl rfl;have x50_3:=E.ne 0 5 rfl rfl rfl;have hA:OwnN [b3,b4,b5,b8,b9] u1.heap.size _ [clnT (Zb (Zb t i) 0)] (.slice (some ⟨b50,0,none⟩) 1 1):=Jc E.g0 y50 (show Kd _ _ (clnT (Zb (Zb t i) 0)).kids (.slice none 0 0) from Qta _ _) ⟨⟨y50,by simp;omega⟩,Xa E.g0⟩;obtain ⟨bq,hbq⟩:∃ x,x=b50:=⟨_,rfl⟩;refine AS fun _ ga Ca g E=>?_;have h:=Ub h;have hkg1:=Ud hkg1;have hcell:=Uh hcell;have hcg0:=Uh hcg0;have hcg1:=Uh hcg1;have hO:=Ue hO;have hA:=Ue hA;have hmu:=Nat.le_trans hmu ga.size;refine AU ?_;refine Xu (gtR n0) [3,0,3,3,0,3,3,3,0,3,0,1,1,2,3,2] [0,1,0,0,8,0,56,120,248,504,1016,2044,4092,8191,16383,32767] mix (by kernel_rfl) [0,1,2,3,4,5,6,7,8,9,10,11,12,13,14,15] O ?_;have g:=gtd g;replace E:=E.dr;have h:=h.grow (G.drew _);have hcell:=hcell.grow (G.drew _);have hcg1:=hcg1.grow (G.drew _);have hkg1:=hkg1.grow (G.drew _);have hO:=hO.grow (G.drew _);have hA:=hA.grow (G.drew _);have hmu:=Nat.le_trans hmu ((G.drew _)).size
 refine Zx 0 O O (fun _=>Zn Zg (Zd O)) (Wh 1 O O (fun w1 hx=>Zw Zf (Zd O) (fun _=>(E.g2.gt hx O).at_ O)) (Zx 2 O O (fun _=>Zl (Zd O)) (Zx 3 O O (fun _=>Zn Zg (Zd O)) (Wh 4 O O (fun w1 hx=>Zw Zf (Zd O) (fun _=>(E.g5.gt hx O).at_ O)) (Zx 5 O O (fun _=>Zl (Zd O)) (Zx 6 O O (fun _=>Xb Zc (Zd O) (Zd O) (fun _=>by omega) (fun _=>e0)) (Zx 7 O O (fun _=>Zn Zg (Zd O)) (Wh 8 O O (fun w1 hx=>Zw Zf (Zd O) (fun _=>(hcell.gt hx hDp).one (i:=4) O)) (Zx 9 O O (fun _=>Xb Zc (Zd O) Xg (fun _=>by omega) (fun _=>eg)) (Wh 10 O O (fun w1 hx=>Zy Zh (Zd O) O (fun _=>hcg1.gt hx hDg)) (Zu 11 O O ?_)))))))))));refine Zv (L':=[12,13,14,15]) [3,0,3,3,0,3,3,3,0,3,0,2,1,2,3,2] O O O ?_;refine CL (CkC.to (Qb.sts hbl) [b3,b4,b5,b8,b9,bq] h hkg1 hba (by omega) (List.forall_mem_cons.2 ⟨E.g5.lt,(List.forall_mem_cons.2 ⟨E.g4.lt,(List.forall_mem_cons.2 ⟨E.g3.lt,(List.forall_mem_cons.2 ⟨E.g2.lt,(List.forall_mem_cons.2 ⟨E.g1.lt,(List.forall_mem_cons.2 ⟨by rw [hbq];first|exact E.g0.lt|exact B55.lt,(List.forall_mem_nil _)⟩)⟩)⟩)⟩)⟩)⟩) hmu) ?_;rintro v68 w68 ⟨⟨p68,c68,rfl,q68,k68⟩,h,g68⟩;refine ⟨nw1,?_⟩;have g:=g.trans g68;replace E:=E.gt g68 rfl;have hO:=hO.gt g68 rfl;have hA:=hA.gt g68 rfl;have hmu:=Nat.le_trans hmu (g68).size;refine Yj (g68) ?_;refine Zu 12 O O ?_;refine Zv (L':=[13,14,15]) [3,0,3,3,0,3,3,3,0,3,0,2,1,2,3,2] O O O ?_;refine CN fun _ _ N69 l69 g E=>?_;have k68:=k68.new N69;have hO:=hO.new N69;have hA:=hA.new N69;have y69:=Nat.le_trans hmu (Nat.le_of_eq N69.at_.symm);have h:=h.grow (N69.g);have hmu:=Nat.le_trans hmu ((N69.g)).size;have x69_50:=E.ne 0 1 rfl rfl rfl;refine Yj (GT.of_g (N69.g)) ?_;refine Zu 13 O O ?_
 refine Ye (L':=[14,15]) [3,0,3,3,0,3,3,3,0,3,0,2,1,2,3,2] O O O O ?_;have hOo:=hA;refine Xx O Zc Zt O (Zd O) hA (Zd O) O E.g0.row (Ql k68 q68 (by intro j hj;simp at hj ⊢;omega) (fun j hj=>by first|(obtain rfl:b50=j:=(by injection hj);rw [← hbq];simp)|(obtain rfl:b55=j:=(by injection hj);rw [← hbq];simp))) (by simp) (by have:=g.size;omega) ⟨by have:=g.size;omega,by have q3:=E.g6.lt;have q4:=E.g5.lt;have q5:=E.g4.lt;have q8:=E.g3.lt;have q9:=E.g2.lt;have q69:=E.g0.lt;simp;omega⟩ ?_;intro a70 c70 w70 hA hg70;replace E:=E.sel [true,false,true,true,true,true,true];replace E:=E.keepX hg70 hOo.ne (by simp [selB]);have g:=Ww g hg70 (fun k hk=>Nat.le_trans gl1.size (hOo.ge k hk));have h:=h.keepO hg70 hOo (by have:=gl1.size;omega);have hmu:=Nat.le_trans hmu hg70.size;try first|have hO:=hO.keep (b:=b50) hg70 (by simp)|have hO:=hO.keep (b:=b55) hg70 (by simp)
 refine Yy ?_;refine Zx 14 O O (fun _=>Zn Zg (Zd O)) (Zu 15 O O ?_);refine Ye (L':=[]) [3,0,3,3,0,3,3,3,0,3,0,2,1,2,3,2] O O O O ?_;refine AS fun _ ga Ca g E=>?_;have h:=Ub h;have hO:=Ue hO;have hA:=Ue hA;have hmu:=Nat.le_trans hmu ga.size;refine Yy ?_;refine TK [0,3,4,5,6,7,8] ?_;refine AU ?_;refine CL (Udc h hs2 hs1 hs3) ?_;rintro _ _ ⟨rfl,h,ga⟩;refine RC fun g E=>?_;have hO:=hO.gt ga rfl;have hA:=hA.gt ga rfl;have hmu:=Nat.le_trans hmu (ga).size;refine AU ?_;have hO:=hO.sub (Y:=[b3,b4,b5,b8]) (by intro j hj;simp at hj ⊢;omega);refine CN fun _ _ ga l77 g E=>?_;have hO:=Uj hO;have hA:=Uj hA;have y77:=Nat.le_trans hmu (Nat.le_of_eq ga.at_.symm);have h:=Ui h;have hmu:=Nat.le_trans hmu ((ga.g)).size;have hOo:=hO;refine Xx O Zc Zt O (Zd O) hO (Zd O) O E.g0.row (Yc (t:=annT (Zb t i) [_,_] ty0) (OwnK.kd hA fun k hb=>⟨⟨⟨by have:=hb.1.1;have:=gl1.size;omega,by have:=hb.1.2;simp at this ⊢;omega⟩,hb.2⟩,by intro e;have:=hOlt k e.symm;have:=hb.1.1;omega⟩)) (by simp;omega) (by have:=g.size;omega) ⟨by have:=g.size;omega,by have q3:=E.g6.lt;have q4:=E.g5.lt;have q5:=E.g4.lt;have q8:=E.g3.lt;have q77:=E.g0.lt;simp;omega⟩ ?_;intro a78 c78 w78 hO hg78;replace E:=E.sel [true,false,false,true,true,true,true];replace E:=E.keepX hg78 hOo.ne (by simp [selB]);have g:=Ww g hg78 (fun k hk=>hOo.ge k hk);have h:=h.keepO hg78 hOo (by have:=gl1.size;omega);have hmu:=Nat.le_trans hmu hg78.size;refine AS fun _ ga Ca g E=>?_;have h:=Ub h;have hO:=Ue hO;have hmu:=Nat.le_trans hmu ga.size;refine AU ?_;refine SK [6,7,0,3,4,5] ?_;refine Ze (fun a ha=>?_)
 have e6:(selA t (ckX F t) S (i+1)).2.1=false:=by rw [ea];show ((selA t (ckX F t) S i).2.1 && !decide ((Zb (Zb t i) 0).kind=9))=false;rw [Weh h2];simp
 have e1A:=congrArg Prod.fst eA;have hO:=hO.sub (Y:=[b3,b4,b5]) (by intro j hj;simp at hj ⊢;omega);exact ⟨i+1,by rw [e6];exact ha,⟨⟨h1,by rw [ea];exact h,_,E.g2,by rw [ea,e1A];exact hO⟩,g⟩,(Zs (blkE E.g4) (Zs (blkE E.g3) (Zz _))),by omega⟩;replace h2:(Zb (Zb t i) 0).kind≠9:=of_decide_eq_false h2;have hst:stmtB (Zb (Zb t i) 0)=true:=(Jjd hcm).resolve_left h2;have eA:casA F (Zb t i) (selA t (ckX F t) S i).2.1 (selA t (ckX F t) S i).2.2=(ckT F (Zb (Zb t i) 0)).st (openS (selA t (ckX F t) S i).2.2):=by unfold casA;rw [Wdh h2];rfl
 refine AU ?_;refine CL (CkC.to (Qa.st hst) [b3,b4,b5,b8,b9] h hkg0 hbo (by omega) (E.ltm (by simp [selB])) hmu) ?_;rintro _ _ ⟨⟨p54,c54,rfl,q54,k54⟩,h,ga⟩;refine RC fun g E=>?_;have hcell:=hcell.gt ga hDp;have hcg0:=hcg0.gt ga hDg;have hcg1:=hcg1.gt ga hDg;have hkg1:=Um hkg1;have hO:=hO.gt ga rfl;have hmu:=Nat.le_trans hmu (ga).size;have eB:(casA F (Zb t i) (selA t (ckX F t) S i).2.1 (selA t (ckX F t) S i).2.2).2=((ckT F (Zb (Zb t i) 0)).st (openS (selA t (ckX F t) S i).2.2)).2:=by rw [eA]
 rw [← eB] at h;refine CN fun b55 _ ga _ g E=>?_;have k54:=Uj k54;have hO:=Uj hO;have y55:=Nat.le_trans hmu (Nat.le_of_eq ga.at_.symm);have h:=Ui h;have hcell:=Ui hcell;have hcg0:=Ui hcg0;have hcg1:=Ui hcg1;have hkg1:=Ui hkg1;have hmu:=Nat.le_trans hmu ((ga.g)).size;have x55_9:=E.ne 0 1 rfl rfl rfl;have x55_8:=E.ne 0 2 rfl rfl rfl;have x55_5:=E.ne 0 3 rfl rfl rfl;have x55_4:=E.ne 0 4 rfl rfl rfl;have x55_3:=E.ne 0 5 rfl rfl rfl;have hA:OwnN [b3,b4,b5,b8,b9] u1.heap.size _ [((ckT F (Zb (Zb t i) 0)).st (openS (selA t (ckX F t) S i).2.2)).1] (.slice (some ⟨b55,0,none⟩) 1 1):=Jc E.g0 y55 (k54.mono fun k hk _=>⟨⟨⟨by have:=hk.1.1;omega,by have:=hk.1.2;simp at this ⊢;omega⟩,hk.2⟩,by have:=hk.1.2;simp at this;omega⟩) ⟨⟨y55,by simp;omega⟩,Xa E.g0⟩;obtain ⟨bq,hbq⟩:∃ x,x=b55:=⟨_,rfl⟩;refine AS fun _ ga Ca g E=>?_;have h:=Ub h;have hkg1:=Ud hkg1;have hcell:=Uh hcell;have hcg0:=Uh hcg0;have hcg1:=Uh hcg1;have hO:=Ue hO;have hA:=Ue hA;have hmu:=Nat.le_trans hmu ga.size;refine AU ?_;refine Xu (gtR n0) [3,0,3,3,0,3,3,3,0,3,0,1,1,2,3,2] [0,1,0,0,8,0,56,120,248,504,1016,2044,4092,8191,16383,32767] mix (by kernel_rfl) [0,1,2,3,4,5,6,7,8,9,10,11,12,13,14,15] O ?_;have g:=gtd g;replace E:=E.dr;have h:=h.grow (G.drew _);have hcell:=hcell.grow (G.drew _);have hcg1:=hcg1.grow (G.drew _);have hkg1:=hkg1.grow (G.drew _);have hO:=hO.grow (G.drew _);have hA:=hA.grow (G.drew _);have hmu:=Nat.le_trans hmu ((G.drew _)).size
 refine Zx 0 O O (fun _=>Zn Zg (Zd O)) (Wh 1 O O (fun w1 hx=>Zw Zf (Zd O) (fun _=>(E.g2.gt hx O).at_ O)) (Zx 2 O O (fun _=>Zl (Zd O)) (Zx 3 O O (fun _=>Zn Zg (Zd O)) (Wh 4 O O (fun w1 hx=>Zw Zf (Zd O) (fun _=>(E.g5.gt hx O).at_ O)) (Zx 5 O O (fun _=>Zl (Zd O)) (Zx 6 O O (fun _=>Xb Zc (Zd O) (Zd O) (fun _=>by omega) (fun _=>e0)) (Zx 7 O O (fun _=>Zn Zg (Zd O)) (Wh 8 O O (fun w1 hx=>Zw Zf (Zd O) (fun _=>(hcell.gt hx hDp).one (i:=4) O)) (Zx 9 O O (fun _=>Xb Zc (Zd O) Xg (fun _=>by omega) (fun _=>eg)) (Wh 10 O O (fun w1 hx=>Zy Zh (Zd O) O (fun _=>hcg1.gt hx hDg)) (Zu 11 O O ?_)))))))))));refine Zv (L':=[12,13,14,15]) [3,0,3,3,0,3,3,3,0,3,0,2,1,2,3,2] O O O ?_;refine CL (CkC.to (Qb.sts hbl) [b3,b4,b5,b8,b9,bq] h hkg1 hba (by omega) (List.forall_mem_cons.2 ⟨E.g5.lt,(List.forall_mem_cons.2 ⟨E.g4.lt,(List.forall_mem_cons.2 ⟨E.g3.lt,(List.forall_mem_cons.2 ⟨E.g2.lt,(List.forall_mem_cons.2 ⟨E.g1.lt,(List.forall_mem_cons.2 ⟨by rw [hbq];first|exact B50.lt|exact E.g0.lt,(List.forall_mem_nil _)⟩)⟩)⟩)⟩)⟩)⟩) hmu) ?_;rintro v68 w68 ⟨⟨p68,c68,rfl,q68,k68⟩,h,g68⟩;refine ⟨nw1,?_⟩;have g:=g.trans g68;replace E:=E.gt g68 rfl;have hO:=hO.gt g68 rfl;have hA:=hA.gt g68 rfl;have hmu:=Nat.le_trans hmu (g68).size;refine Yj (g68) ?_;refine Zu 12 O O ?_;refine Zv (L':=[13,14,15]) [3,0,3,3,0,3,3,3,0,3,0,2,1,2,3,2] O O O ?_;refine CN fun _ _ N69 _ g E=>?_;have k68:=k68.new N69;have hO:=hO.new N69;have hA:=hA.new N69;have y69:=Nat.le_trans hmu (Nat.le_of_eq N69.at_.symm);have h:=h.grow (N69.g);have hmu:=Nat.le_trans hmu ((N69.g)).size;have x69_55:=E.ne 0 1 rfl rfl rfl;refine Yj (GT.of_g (N69.g)) ?_;refine Zu 13 O O ?_
 refine Ye (L':=[14,15]) [3,0,3,3,0,3,3,3,0,3,0,2,1,2,3,2] O O O O ?_;have hOo:=hA;refine Xx O Zc Zt O (Zd O) hA (Zd O) O E.g0.row (Ql k68 q68 (by intro j hj;simp at hj ⊢;omega) (fun j hj=>by first|(obtain rfl:b50=j:=(by injection hj);rw [← hbq];simp)|(obtain rfl:b55=j:=(by injection hj);rw [← hbq];simp))) (by simp) (by have:=g.size;omega) ⟨by have:=g.size;omega,by have q3:=E.g6.lt;have q4:=E.g5.lt;have q5:=E.g4.lt;have q8:=E.g3.lt;have q9:=E.g2.lt;have q69:=E.g0.lt;simp;omega⟩ ?_;intro a70 c70 w70 hA hg70;replace E:=E.sel [true,false,true,true,true,true,true];replace E:=E.keepX hg70 hOo.ne (by simp [selB]);have g:=Ww g hg70 (fun k hk=>Nat.le_trans gl1.size (hOo.ge k hk));have h:=h.keepO hg70 hOo (by have:=gl1.size;omega);have hmu:=Nat.le_trans hmu hg70.size;try first|have hO:=hO.keep (b:=b50) hg70 (by simp)|have hO:=hO.keep (b:=b55) hg70 (by simp)
 refine Yy ?_;refine Zx 14 O O (fun _=>Zn Zg (Zd O)) (Zu 15 O O ?_);refine Ye (L':=[]) [3,0,3,3,0,3,3,3,0,3,0,2,1,2,3,2] O O O O ?_;refine AS fun _ ga Ca g E=>?_;have h:=Ub h;have hO:=Ue hO;have hA:=Ue hA;have hmu:=Nat.le_trans hmu ga.size;refine Yy ?_;refine TK [0,3,4,5,6,7,8] ?_;refine AU ?_;refine CL (Udc h hs2 hs1 hs3) ?_;rintro _ _ ⟨rfl,h,ga⟩;refine RC fun g E=>?_;have hO:=hO.gt ga rfl;have hA:=hA.gt ga rfl;have hmu:=Nat.le_trans hmu (ga).size;refine AU ?_;have hO:=hO.sub (Y:=[b3,b4,b5,b8]) (by intro j hj;simp at hj ⊢;omega);refine CN fun _ _ ga _ g E=>?_;have hO:=Uj hO;have hA:=Uj hA;have y77:=Nat.le_trans hmu (Nat.le_of_eq ga.at_.symm);have h:=Ui h;have hmu:=Nat.le_trans hmu ((ga.g)).size;have hOo:=hO;refine Xx O Zc Zt O (Zd O) hO (Zd O) O E.g0.row (Yc (t:=annT (Zb t i) [_,_] ty0) (OwnK.kd hA fun k hb=>⟨⟨⟨by have:=hb.1.1;have:=gl1.size;omega,by have:=hb.1.2;simp at this ⊢;omega⟩,hb.2⟩,by intro e;have:=hOlt k e.symm;have:=hb.1.1;omega⟩)) (by simp;omega) (by have:=g.size;omega) ⟨by have:=g.size;omega,by have q3:=E.g6.lt;have q4:=E.g5.lt;have q5:=E.g4.lt;have q8:=E.g3.lt;have q77:=E.g0.lt;simp;omega⟩ ?_;intro a78 c78 w78 hO hg78;replace E:=E.sel [true,false,false,true,true,true,true];replace E:=E.keepX hg78 hOo.ne (by simp [selB]);have g:=Ww g hg78 (fun k hk=>hOo.ge k hk);have h:=h.keepO hg78 hOo (by have:=gl1.size;omega);have hmu:=Nat.le_trans hmu hg78.size;refine AS fun _ ga Ca g E=>?_;have h:=Ub h;have hO:=Ue hO;have hmu:=Nat.le_trans hmu ga.size;refine AU ?_;refine SK [6,7,0,3,4,5] ?_;refine Ze (fun a ha=>?_)
 have e6:(selA t (ckX F t) S (i+1)).2.1=(selA t (ckX F t) S i).2.1:=by rw [ea];show ((selA t (ckX F t) S i).2.1 && !decide ((Zb (Zb t i) 0).kind=9))=(selA t (ckX F t) S i).2.1;rw [Wdh h2];simp
 have e1A:=congrArg Prod.fst eA;have hO:=hO.sub (Y:=[b3,b4,b5]) (by intro j hj;simp at hj ⊢;omega);exact ⟨i+1,by rw [e6];exact ha,⟨⟨h1,by rw [ea];exact h,_,E.g2,by rw [ea,e1A];exact hO⟩,g⟩,(Zs (blkE E.g4) (Zs (blkE E.g3) (Zz _))),by omega⟩;replace h1:i=t.kids.length:=by simp only [decide_eq_false_iff_not] at h1;omega
 subst h1;refine AS fun _ ga Ca g E=>?_;have h:=Ub h;have hO:=Ue hO;have hmu:=Nat.le_trans hmu ga.size;refine RTN ?_;exact ⟨Zr (t:=annT t _ ty0) rfl hO.kd,h,g⟩
theorem Ytg:PP.underlying Yza=some (.map Yrb Yof):=by kernel_rfl
def intV(a:Int):Value:=.int .i64 a
theorem Xof:KeyT PP Yrb intV:=Jrf (q:=.i64) (by kernel_rfl)
def boxS(o:List Int)(c:Int×Int):List Int:=bif decide (c.1=1) then (bif decide (c.2∈o) then o else o++[c.2]) else o
def boxX(o:List Int)(x:Nd×Int):List Int:=bif !decide (0<x.2)&&decide (x.1.kind=38) then (capT x.1).foldl boxS o else o
def boxV(pre:List (Nd×Int)):List Int:=pre.foldl boxX []
def lc0(d:Dc):Lc:=⟨d.name,d.typ,d.par,false⟩
def locX(x:Nd×Int):List Lc:=bif decide (0<x.2) then [] else (dclD x.1).map lc0
def locV(pre:List (Nd×Int)):List Lc:=pre.flatMap locX
theorem Uec(pre:List (Nd×Int))(x:Nd×Int):locV (pre++[x])=locV pre++locX x:=by
 unfold locV;rw [List.flatMap_append,List.flatMap_cons,List.flatMap_nil,List.append_nil]
theorem Ufc(pre:List (Nd×Int))(x:Nd×Int):boxV (pre++[x])=boxX (boxV pre) x:=by
 unfold boxV;rw [List.foldl_append];rfl
theorem Une(x:Nd):(dclD x).length≤1:=by
 unfold dclD;cases decide (x.kind=3);cases decide (x.kind=6);cases decide (x.kind=11) <;> simp
 exact Nat.le_refl _;exact Nat.le_refl _
theorem Vdd:∀ pre:List (Nd×Int),(locV pre).length≤pre.length
 | []=>Nat.le_refl _
 | x::pre=>by
  have:=Vdd pre;show (locX x++locV pre).length≤_;rw [List.length_append,List.length_cons]
  have h:(locX x).length≤1:=by
   unfold locX;cases decide (0<x.2);rw [cond_false,List.length_map];exact Une x.1;exact Nat.zero_le _
  omega
theorem Uxg{x:Nd×Int}(h:decide (0<x.2)=true)(pre:List (Nd×Int)):locV (pre++[x])=locV pre∧boxV (pre++[x])=boxV pre:=by
 rw [Uec,Ufc];unfold locX boxX;rw [h];exact ⟨List.append_nil _,rfl⟩
theorem Xae{x:Nd×Int}{d:Dc}(h:decide (0<x.2)=false)(hd:dclD x.1=[d])(hk:decide (x.1.kind=38)=false)(pre:List (Nd×Int)):locV (pre++[x])=locV pre++[lc0 d]∧boxV (pre++[x])=boxV pre:=by
 rw [Uec,Ufc];unfold locX boxX;rw [h,hd,hk];exact ⟨rfl,rfl⟩
theorem Uyg{x:Nd×Int}(h:decide (0<x.2)=false)(hk:decide (x.1.kind=38)=true)(pre:List (Nd×Int)):locV (pre++[x])=locV pre∧boxV (pre++[x])=(capT x.1).foldl boxS (boxV pre):=by
 have e:dclD x.1=[]:=by unfold dclD;rw [of_decide_eq_true hk];rfl
 rw [Uec,Ufc];unfold locX boxX;rw [h,hk,e];exact ⟨List.append_nil _,rfl⟩
theorem Uzg{x:Nd×Int}(hd:dclD x.1=[])(hk:decide (x.1.kind=38)=false)(pre:List (Nd×Int)):locV (pre++[x])=locV pre∧boxV (pre++[x])=boxV pre:=by
 rw [Uec,Ufc];unfold locX boxX;rw [hd,hk,Bool.and_false];cases decide (0<x.2) <;> exact ⟨List.append_nil _,rfl⟩
theorem Ugc(t:Nd):(capT t).length≤count t:=by
 by_cases h:t.kind=38;rw [← Vre h];have h1:=Jhd (visN t 0);have h2:=Wxd t 0;show (capsV (visN t 0)).length≤_;omega;unfold capT;rw [Wdh h];exact Nat.zero_le _
theorem Yug{w:World}{b o:Nat}{a:Value}{l:List Value}(h:RowAt w b o (a::l)):b<w.heap.size:=World.block_lt_of_cell? w _ (h 0 a rfl)
theorem Ugf{w:World}{b o b':Nat}{a:Value}{l ks:List Value}(h:RowAt w b o (a::l))(h':MapB w b' ks):b≠b':=fun q=>by
 subst q;obtain ⟨es,c,hb,_⟩:=h';have:=h 0 a rfl;simp [World.cell?,hb] at this
structure JO (w0:World) (bo bf bm:Nat) (pre:List (Nd×Int)) (V:Nat→Prop) (A:World):Prop where
  gw:G w0 A
  F:Blk A bf Yza [.map (some bm)]
  M:MapB A bm ((boxV pre).map intV)
  ex:∃ s,Blk A bo Wua [s]∧OwF lcCells Zka 5 w0.heap.size A (locV pre) s∧∀ k,V k↔k=bo∨k=bf∨k=bm∨s.ownBlock=some k
section
variable {D:Nat→Prop} {bo bf bm:Nat} {w0:World}
theorem Uhc{pre:List (Nd×Int)}{x:Nd×Int}{V:Nat→Prop}{w C:World}{s s':Value}{ls:List Lc}(e1:locV (pre++[x])=ls)(e2:boxV (pre++[x])=boxV pre)(gw:G w0 C)(hF:Blk C bf Yza [.map (some bm)])(hM:MapB C bm ((boxV pre).map intV))
 (hB:Blk C bo Wua [s']) (hO:OwF lcCells Zka 5 w0.heap.size C ls s') (hV:∀ k,V k↔k=bo∨k=bf∨k=bm∨s.ownBlock=some k) (hat:∀ j,s'.ownBlock=some j→s.ownBlock=some j∨w.heap.size≤j) (g:GV V w C) :
 ∃ V',JO w0 bo bf bm (pre++[x]) V' C∧(∀ k,V' k→V k∨w.heap.size≤k)∧GV V w C:=by
 refine ⟨fun k=>k=bo∨k=bf∨k=bm∨s'.ownBlock=some k,⟨gw,hF,by rw [e2];exact hM,s',hB,by rw [e1];exact hO,fun k=>Iff.rfl⟩,fun k hk=>?_,g⟩;rcases hk with q|q|q|q;exact .inl ((hV k).2 (.inl q));exact .inl ((hV k).2 (.inr (.inl q)));exact .inl ((hV k).2 (.inr (.inr (.inl q))));exact (hat k q).imp (fun q=>(hV k).2 (.inr (.inr (.inr q)))) id
set_option maxHeartbeats 2000000 in
theorem Qag(hL:Laid w0)(hb3:4≤w0.heap.size)(hT:LaidT w0)(hbo:w0.heap.size≤bo)(hbm:w0.heap.size≤bm)(pre:List (Nd×Int))(x:Nd×Int)(V:Nat→Prop)(w:World)(p:Option Addr)(c:Nat)(hj:JO w0 bo bf bm pre V w)(hpl:pre.length<1000000)
 (hQ:dclD x.1≠[]→0<x.1.kids.length) (hcn:count x.1≤1000000) (hk:Kd w D x.1.kids (.slice p x.1.kids.length c)) :
 Ret PP Qua #[ndV x.1 (.slice p x.1.kids.length c),.int .i64 x.2,.pointer (some ⟨bo,0,none⟩),.pointer (some ⟨bf,0,none⟩)] w fun _ A'=>∃ V',JO w0 bo bf bm (pre++[x]) V' A'∧(∀ k,V' k→V k∨w.heap.size≤k)∧GV V w A':=by
 obtain ⟨gw,hF,hM,s,hB,hO,hV⟩:=hj;obtain ⟨sa,sc,rfl⟩:=hO.slice;have hll:=Vdd pre;have hbl:=hB.lt;have hfl:=hF.lt;have hml:=hM.lt;have hw0:=gw.size;have hln:=Wz x.1;have hcl:=Ugc x.1;have g:=GV.refl V w;refine WK 79 [0,1,2,3] Uab ?_;refine AU ?_;refine Wya O (Zd O) O ?_;intro b4 w4 N4;have l4:=Yea N4 g.size;have hne4:=hO.nnew N4;have g:=g.trans (GV.of_g (N4.g));have hB:=hB.grow (N4.g);have hF:=hF.grow (N4.g);have hM:=hM.grow (N4.g);have hO:=hO.grow (N4.g);have hk:=hk.grow (N4.g);have gw:=gw.trans (N4.g);have E:=(Xia _).new N4;refine IF (fun h1=>?_) fun h1=>?_;replace h1:decide (0<x.2)=true:=h1;obtain ⟨e1,e2⟩:=Uxg h1 pre;refine Xe (Qve O ?_);exact Uhc e1 e2 gw hF hM hB hO hV (fun j hj=>.inl hj) g;replace h1:decide (0<x.2)=false:=h1;refine IF (fun h2=>?_) fun h2=>?_;replace h2:x.1.kind=3:=of_decide_eq_true h2;have hd:dclD x.1=[⟨x.1.text,(ofF (Zb x.1 0)).1,true⟩]:=by unfold dclD;rw [h2];rfl
 have h0:=hQ (by rw [hd];simp);obtain ⟨hpe,p1,c1,hcell,hkid⟩:=Yl hk h0;have hln1:=Wz (Zb x.1 0);have hcn1:=Jk h0;obtain ⟨e1,e2⟩:=Xae h1 hd (by rw [h2];rfl) pre;refine AU ?_;refine CL (Jyf (Zb x.1 0) _ _ _ (hL.grow gw) (by have:=gw.size;omega) (hT.grow gw) (by omega)) ?_;rintro v23 w23 ⟨rfl,g23⟩;refine ⟨fun _=>g23,?_⟩;have g:=g.trans (GV.of_g (g23));replace E:=E.grow g23;have hB:=hB.grow (g23);have hF:=hF.grow (g23);have hM:=hM.grow (g23);have hO:=hO.grow (g23);have hk:=hk.grow (g23);have gw:=gw.trans (g23);refine Zp O (Usc O O (Usc O O (Jm O Wl O ?_)));intro b6 w6 N6;have l6:=Yea N6 g.size;have hne6:=hO.nnew N6;have g:=g.trans (GV.of_g (N6.g));have hB:=hB.grow (N6.g);have hF:=hF.grow (N6.g);have hM:=hM.grow (N6.g);have hO:=hO.grow (N6.g);have hk:=hk.grow (N6.g);have gw:=gw.trans (N6.g);replace E:=E.new N6;refine Ygb We O O O E.g0 ?_;intro wS1 hgS1 _ BS;replace E:=E.s0 hgS1 BS;have g:=Ycb g hgS1 (by omega);have hB:=hB.keep hgS1 (by intro e;injection e with e;omega);have hF:=hF.keep hgS1 (by intro e;injection e with e;omega);have hM:=hM.keep hgS1 (by intro e;injection e with e;omega);have hO:=hO.keepB hgS1 hne6;have gw:=Qc gw hgS1 (fun k hk=>by injection hk with hk;omega);refine Yr O (Ze (kq (Zk (Yp Yla O (hB.at_ O) (Yf Yn O (Yp Yg O (E.g1.at_ O) (Ve Xd O O E.g0.row (Jv Uq Waa (pqc O (pqc O (pqc O pq0))) O O (Wp _ O Wb Uq (pqc O pq0) O O ?_)))))))));intro b31 w31 N31;have l31:=Yea N31 g.size;have hne31:=hO.nnew N31;have g:=g.trans (GV.of_g (N31.g));have hB:=hB.grow (N31.g);have hF:=hF.grow (N31.g);have hM:=hM.grow (N31.g);have hO:=hO.grow (N31.g);have gw:=gw.trans (N31.g);replace E:=E.new N31;have hwg:=g.size;have hgws:=gw.size
 refine Ydb O Wb Uq O O Ux (Zd O) hO (Zd O) (Qma (x:=lc0 ⟨x.1.text,(ofF (Zb x.1 0)).1,true⟩) E.g0 O) (by simp) (Zoa Vxc _) (by simp;omega) O (by omega) ?_;intro a32 c32 w32 hO2 hg32 hat32;have hB:=hB.keep hg32 (fun e=>Zna hO.1 hB rfl e.symm);have hF:=hF.keep hg32 (fun e=>Zna hO.1 hF rfl e.symm);have hM:=hM.keep hg32 (fun e=>Ykd hO.1 hM e.symm);have g:=Wvd g hg32 (fun k hk=>(hV k).2 (.inr (.inr (.inr hk))));have gw:=Qc gw hg32 (fun k hk=>hO.ge k hk);have hat:∀ j,(Value.slice a32 (locV pre++[lc0 ⟨x.1.text,(ofF (Zb x.1 0)).1,true⟩]).length c32).ownBlock=some j→(Value.slice sa (locV pre).length sc).ownBlock=some j∨w.heap.size≤j:=fun j hj=>(hat32 j hj).imp id (fun q=>by omega);refine Yq O Wva (Zd O) (Zd O) O hB O O ?_;intro w99 hg99 hz99 hB99;have hF:=hF.keep hg99 (Js (Wlb hF hB rfl));have hM:=hM.keep hg99 (Js (Jka hB hM).symm);have hO2:=hO2.keep hg99 hB rfl;have g:=Xlc g hg99 ((hV bo).2 (.inl rfl));have gw:=Qc gw hg99 (fun k hk=>by injection hk with hk;omega);refine Ze (Qn O ?_);exact Uhc e1 e2 gw hF hM hB99 hO2 hV hat g;replace h2:¬ x.1.kind=3:=of_decide_eq_false h2;refine IF (fun h3=>?_) fun h3=>?_;replace h3:x.1.kind=6:=of_decide_eq_true h3;have hd:dclD x.1=[⟨x.1.text,(ofF (Zb x.1 0)).1,false⟩]:=by unfold dclD;rw [h3];rfl
 have h0:=hQ (by rw [hd];simp);obtain ⟨hpe,p1,c1,hcell,hkid⟩:=Yl hk h0;have hln1:=Wz (Zb x.1 0);have hcn1:=Jk h0;obtain ⟨e1,e2⟩:=Xae h1 hd (by rw [h3];rfl) pre;refine AU ?_;refine CL (Jyf (Zb x.1 0) _ _ _ (hL.grow gw) (by have:=gw.size;omega) (hT.grow gw) (by omega)) ?_;rintro v40 w40 ⟨rfl,g40⟩;refine ⟨fun _=>g40,?_⟩;have g:=g.trans (GV.of_g (g40));replace E:=E.grow g40;have hB:=hB.grow (g40);have hF:=hF.grow (g40);have hM:=hM.grow (g40);have hO:=hO.grow (g40);have hk:=hk.grow (g40);have gw:=gw.trans (g40);refine Zp O (Usc O O (Usc O O (Jm O Wl O ?_)));intro b8 w8 N8;have l8:=Yea N8 g.size;have hne8:=hO.nnew N8;have g:=g.trans (GV.of_g (N8.g));have hB:=hB.grow (N8.g);have hF:=hF.grow (N8.g);have hM:=hM.grow (N8.g);have hO:=hO.grow (N8.g);have hk:=hk.grow (N8.g);have gw:=gw.trans (N8.g);replace E:=E.new N8;refine Ygb We O O O E.g0 ?_;intro wS3 hgS3 _ BS;replace E:=E.s0 hgS3 BS;have g:=Ycb g hgS3 (by omega);have hB:=hB.keep hgS3 (by intro e;injection e with e;omega);have hF:=hF.keep hgS3 (by intro e;injection e with e;omega);have hM:=hM.keep hgS3 (by intro e;injection e with e;omega);have hO:=hO.keepB hgS3 hne8;have gw:=Qc gw hgS3 (fun k hk=>by injection hk with hk;omega);refine Yr O (Ze (kq (Zk (Yp Yla O (hB.at_ O) (Yf Yn O (Yp Yg O (E.g1.at_ O) (Ve Xd O O E.g0.row (Jv Uq Waa (pqc O (pqc O pq0)) O O (Wp _ O Wb Uq (pqc O pq0) O O ?_)))))))));intro b48 w48 N48;have l48:=Yea N48 g.size;have hne48:=hO.nnew N48;have g:=g.trans (GV.of_g (N48.g));have hB:=hB.grow (N48.g);have hF:=hF.grow (N48.g);have hM:=hM.grow (N48.g);have hO:=hO.grow (N48.g);have gw:=gw.trans (N48.g);replace E:=E.new N48;have hwg:=g.size;have hgws:=gw.size
 refine Ydb O Wb Uq O O Ux (Zd O) hO (Zd O) (Qma (x:=lc0 ⟨x.1.text,(ofF (Zb x.1 0)).1,false⟩) E.g0 O) (by simp) (Zoa Vxc _) (by simp;omega) O (by omega) ?_;intro a49 c49 w49 hO2 hg49 hat49;have hB:=hB.keep hg49 (fun e=>Zna hO.1 hB rfl e.symm);have hF:=hF.keep hg49 (fun e=>Zna hO.1 hF rfl e.symm);have hM:=hM.keep hg49 (fun e=>Ykd hO.1 hM e.symm);have g:=Wvd g hg49 (fun k hk=>(hV k).2 (.inr (.inr (.inr hk))));have gw:=Qc gw hg49 (fun k hk=>hO.ge k hk);have hat:∀ j,(Value.slice a49 (locV pre++[lc0 ⟨x.1.text,(ofF (Zb x.1 0)).1,false⟩]).length c49).ownBlock=some j→(Value.slice sa (locV pre).length sc).ownBlock=some j∨w.heap.size≤j:=fun j hj=>(hat49 j hj).imp id (fun q=>by omega);refine Yq O Wva (Zd O) (Zd O) O hB O O ?_;intro w99 hg99 hz99 hB99;have hF:=hF.keep hg99 (Js (Wlb hF hB rfl));have hM:=hM.keep hg99 (Js (Jka hB hM).symm);have hO2:=hO2.keep hg99 hB rfl;have g:=Xlc g hg99 ((hV bo).2 (.inl rfl));have gw:=Qc gw hg99 (fun k hk=>by injection hk with hk;omega);refine Ze (Qn O ?_);exact Uhc e1 e2 gw hF hM hB99 hO2 hV hat g;replace h3:¬ x.1.kind=6:=of_decide_eq_false h3;refine Zi (Zk (Zya O O (Yr O (Ze (kq (Wn O (fun h4=>?_) (fun h4=>?_)))))));replace h4:x.1.kind=11:=of_decide_eq_true h4;have hd:dclD x.1=[⟨x.1.text,(Zb x.1 0).ty,false⟩]:=by unfold dclD;rw [h4];rfl
 have h0:=hQ (by rw [hd];simp);obtain ⟨hpe,p1,c1,hcell,hkid⟩:=Yl hk h0;have hln1:=Wz (Zb x.1 0);have hcn1:=Jk h0;obtain ⟨e1,e2⟩:=Xae h1 hd (by rw [h4];rfl) pre;refine Yx [0,3,0,3,0,3,3,0,3,1,2,2] [true,true,true,true,true,true,true,true,true,true,true,true] [0,0,2,0,8,24,56,120,254,510,1023,2047] mix (by kernel_rfl) ?_;have g:=g.trans (GV.of_g (G.drew _));replace E:=E.dr;have hB:=hB.grow (G.drew _);have hF:=hF.grow (G.drew _);have hM:=hM.grow (G.drew _);have hO:=hO.grow (G.drew _);have hk:=hk.grow (G.drew _);have gw:=gw.trans (G.drew _);have hcell:=hcell.grow (G.drew _);refine Yp Yla O (hB.at_ O) (Yf Yn O (Yp Yg O (E.g0.at_ O) (Yf Zg O (Yp Zf O (E.g0.at_ O) (Ji Zc O O (by omega) hpe (Yf Wk O (Ve Xd O O (hcell.part 5 2) (Jv Uq Waa (pqc O (pqc O pq0)) O O (Wp _ O Wb Uq (pqc O pq0) O O ?_)))))))));intro b61 w61 N61;have l61:=Yea N61 g.size;have hne61:=hO.nnew N61;have g:=g.trans (GV.of_g (N61.g));have hB:=hB.grow (N61.g);have hF:=hF.grow (N61.g);have hM:=hM.grow (N61.g);have hO:=hO.grow (N61.g);have hk:=hk.grow (N61.g);have gw:=gw.trans (N61.g);replace E:=E.new N61;have hwg:=g.size;have hgws:=gw.size;refine Ydb O Wb Uq O O Ux (Zd O) hO (Zd O) (Qma (x:=lc0 ⟨x.1.text,(Zb x.1 0).ty,false⟩) E.g0 O) (by simp) (Zoa Vxc _) (by simp;omega) O (by omega) ?_;intro a62 c62 w62 hO2 hg62 hat62;have hB:=hB.keep hg62 (fun e=>Zna hO.1 hB rfl e.symm);have hF:=hF.keep hg62 (fun e=>Zna hO.1 hF rfl e.symm);have hM:=hM.keep hg62 (fun e=>Ykd hO.1 hM e.symm);have g:=Wvd g hg62 (fun k hk=>(hV k).2 (.inr (.inr (.inr hk))));have gw:=Qc gw hg62 (fun k hk=>hO.ge k hk)
 have hat:∀ j,(Value.slice a62 (locV pre++[lc0 ⟨x.1.text,(Zb x.1 0).ty,false⟩]).length c62).ownBlock=some j→(Value.slice sa (locV pre).length sc).ownBlock=some j∨w.heap.size≤j:=fun j hj=>(hat62 j hj).imp id (fun q=>by omega);refine Yq O Wva (Zd O) (Zd O) O hB O O ?_;intro w99 hg99 hz99 hB99;have hF:=hF.keep hg99 (Js (Wlb hF hB rfl));have hM:=hM.keep hg99 (Js (Jka hB hM).symm);have hO2:=hO2.keep hg99 hB rfl;have g:=Xlc g hg99 ((hV bo).2 (.inl rfl));have gw:=Qc gw hg99 (fun k hk=>by injection hk with hk;omega);refine Ze (Qn O ?_);exact Uhc e1 e2 gw hF hM hB99 hO2 hV hat g;replace h4:¬ x.1.kind=11:=of_decide_eq_false h4;refine IF (fun h5=>?_) fun h5=>?_;replace h5:decide (x.1.kind=38)=true:=h5;obtain ⟨e1,e2⟩:=Uyg h1 h5 pre;refine AU ?_;refine CL (Zoc x.1 _ D _ hk hcn) ?_;rintro v66 w66 ⟨hU,g66⟩;refine ⟨fun _=>g66,?_⟩;have g:=g.trans (GV.of_g (g66));replace E:=E.grow g66;have hB:=hB.grow (g66);have hF:=hF.grow (g66);have hM:=hM.grow (g66);have hO:=hO.grow (g66);have hk:=hk.grow (g66);have gw:=gw.trans (g66);obtain ⟨pu,qu,rfl⟩:=hU.slice;have hRo:=fun i (hi:i<(capT x.1).length)=>hU.1.opt Uz hi;have hR:=fun i (hi:i<(capT x.1).length)=>(hRo i hi).2;have hpu:0<(capT x.1).length→pb pu<w66.heap.size∧pb pu≠bm:=fun h=>⟨Yug (hR 0 h),Ugf (hR 0 h) hM⟩;obtain ⟨n1,hn1⟩:∃ n,n=w66.heap.size:=⟨_,rfl⟩;rw [← hn1] at hpu;refine AU ?_;replace E:=E.sel [false]
 refine Xo (fun (j:Nat) u1=>(j≤(capT x.1).length∧n1≤u1.heap.size∧G w0 u1∧Blk u1 bf Yza [.map (some bm)]∧MapB u1 bm ((((capT x.1).take j).foldl boxS (boxV pre)).map intV)∧Blk u1 bo Wua [.slice sa (locV pre).length sc]∧OwF lcCells Zka 5 w0.heap.size u1 (locV pre) (.slice sa (locV pre).length sc)∧∀ i (hi:i<(capT x.1).length),RowAt u1 (pb pu) (po pu+i*2) (capCells (capT x.1)[i]))∧GV V w u1) _ [(3,True,_),(66,True,_),(67,True,_)] (fun (j:Nat)=>[(68,True,.int .i64 j)]) (fun (j:Nat)=>(capT x.1).length-j) (0) ⟨⟨Nat.zero_le _,Nat.le_of_eq hn1,gw,hF,hM,hB,hO,hR⟩,g⟩ (Zz _) (Za O (Za O (Za O (Za O (Zo _))))) ?_;rintro j u1 ⟨hI1,gl1⟩ _;have g:=gl1;clear gw hF hM hB hO hR;obtain ⟨hi,hnu,gw,hF,hM,hB,hO,hR⟩:=hI1;have hsu:=g.size;refine IF (fun h6=>?_) fun h6=>?_;replace h6:j<(capT x.1).length:=by simp only [decide_eq_true_eq] at h6;omega
 have hcell:=hR j h6;obtain ⟨hpe,_⟩:=hRo j h6;obtain ⟨hp1,hp2⟩:=hpu (by omega);have hst:((capT x.1).take (j+1)).foldl boxS (boxV pre)=boxS (((capT x.1).take j).foldl boxS (boxV pre)) (capT x.1)[j]:=by rw [Jh h6,List.foldl_append];rfl
 refine AU ?_;refine Jm O Vj O ?_;intro b11 w11 N11;have l11:=Yea N11 g.size;have hne11:=hO.nnew N11;have g:=g.trans (GV.of_g (N11.g));have hB:=hB.grow (N11.g);have hF:=hF.grow (N11.g);have hM:=hM.grow (N11.g);have hO:=hO.grow (N11.g);have gw:=gw.trans (N11.g);have E:=(Xia _).new N11;refine Ygb Zbb O O O E.g0 ?_;intro wS6 hgS6 _ BS;replace E:=E.s0 hgS6 BS;have g:=Ycb g hgS6 (by omega);have hB:=hB.keep hgS6 (by intro e;injection e with e;omega);have hF:=hF.keep hgS6 (by intro e;injection e with e;omega);have hM:=hM.keep hgS6 (by intro e;injection e with e;omega);have hO:=hO.keepB hgS6 hne11;have gw:=Qc gw hgS6 (fun k hk=>by injection hk with hk;omega);have hs11:=N11.g.size;have hsS:=hgS6.size;have hR:=fun i hi=>Vz (((hR i hi).grow N11.g)) hgS6 (by have:=N11.at_;omega);refine Ze (kq (Zi (Zk (Yf Yna O (Yp Yh O (E.g0.at_ O) (Zya O O (Ze (kq (Wn O (fun h7=>?_) (fun h7=>?_))))))))));replace h7:(capT x.1)[j].1=1:=of_decide_eq_true h7;have hbs:boxS (((capT x.1).take j).foldl boxS (boxV pre)) (capT x.1)[j]=bif decide ((capT x.1)[j].2∈((capT x.1).take j).foldl boxS (boxV pre)) then ((capT x.1).take j).foldl boxS (boxV pre) else ((capT x.1).take j).foldl boxS (boxV pre)++[(capT x.1)[j].2]:=by unfold boxS;rw [Weh h7];rfl
 refine Zk (Yp Usa O (hF.at_ O) (Yf Ura O (Yp Yh O (E.g0.at_ O) (Vxe (f:=intV) (a:=(capT x.1)[j].2) O Xof Ytg hM (Zd O) (Zd O) Xg ?_))));intro w77 hM2 hg77;rw [← hbs,← hst] at hM2;have hB:=hB.keep hg77 (Js (Jka hB hM));have hF:=hF.keep hg77 (Js (Jka hF hM));have hO:=hO.keepM hg77 hM;have hR:=fun i hi=>Vz (hR i hi) hg77 hp2;have g:=Xlc g hg77 ((hV bm).2 (.inr (.inr (.inl rfl))));have gw:=Qc gw hg77 (fun k hk=>by injection hk with hk;omega);refine AU ?_;refine SK [68,3,66,67] ?_;refine Ze (fun a ha=>?_);exact ⟨j+1,ha,⟨⟨h6,by have:=hg77.size;omega,gw,hF,hM2,hB,hO,hR⟩,g⟩,(Zz _),by omega⟩;replace h7:¬ (capT x.1)[j].1=1:=of_decide_eq_false h7;have hbs:boxS (((capT x.1).take j).foldl boxS (boxV pre)) (capT x.1)[j]=((capT x.1).take j).foldl boxS (boxV pre):=by unfold boxS;rw [Wdh h7];rfl
 refine AU ?_;refine SK [68,3,66,67] ?_;refine Ze (fun a ha=>?_);exact ⟨j+1,ha,⟨⟨h6,by omega,gw,hF,by rw [hst,hbs];exact hM,hB,hO,hR⟩,g⟩,(Zz _),by omega⟩;replace h6:j=(capT x.1).length:=by simp only [decide_eq_false_iff_not] at h6;omega
 subst h6;rw [List.take_length,← e2] at hM;refine Jl O (Qn O ?_);refine ⟨V,⟨gw,hF,hM,_,hB,by rw [e1];exact hO,hV⟩,fun k hk=>.inl hk,g⟩;replace h5:decide (x.1.kind=38)=false:=h5;obtain ⟨e1,e2⟩:=Uzg (by unfold dclD;rw [Wdh h2,Wdh h3,Wdh h4];rfl) h5 pre;refine Yb (Qn O ?_);exact Uhc e1 e2 gw hF hM hB hO hV (fun j hj=>.inl hj) g
end
theorem Uoe(v:Bool):∀ (l:List Lc) (i:Nat) (h:i<l.length),(l.flatMap lcCells).take (i*5+4)++[.bool v]++(l.flatMap lcCells).drop (i*5+4+1)=(l.set i { l[i] with box:=v }).flatMap lcCells
 | [],_,h=>by cases h
 | a::l,0,_=>rfl
 | a::l,i+1,h=>by
  have ih:=Uoe v l i (by simpa using h)
  have e1:((a::l).flatMap lcCells).take ((i+1)*5+4)=lcCells a++(l.flatMap lcCells).take (i*5+4):=by
   rw [List.flatMap_cons,show (i+1)*5+4=(lcCells a).length+(i*5+4) by rw [Ux];omega,List.take_length_add_append]
  have e2:((a::l).flatMap lcCells).drop ((i+1)*5+4+1)=(l.flatMap lcCells).drop (i*5+4+1):=by
   rw [List.flatMap_cons,show (i+1)*5+4+1=(lcCells a).length+(i*5+4+1) by rw [Ux];omega,← List.drop_drop,List.drop_left]
  rw [e1,e2,List.append_assoc,List.append_assoc,← List.append_assoc ((l.flatMap lcCells).take _),ih];simp [List.set_cons_succ]
def boxI(B:List Int)(L:List Lc)(i:Nat):List Lc:=L.mapIdx fun j d=>bif decide (j<i) then { d with box:=decide ((j:Int)∈B) } else d
theorem Uba(B:List Int)(L:List Lc)(i:Nat):(boxI B L i).length=L.length:=by unfold boxI;simp
theorem Ygh(B:List Int)(L:List Lc):boxI B L 0=L:=by
 unfold boxI;apply List.ext_getElem (by simp);intro j h1 h2;simp
theorem Ved{B:List Int}{L:List Lc}{i j:Nat}(h:j<(boxI B L i).length):(boxI B L i)[j]=bif decide (j<i) then { L[j]'(Uba B L i▸h) with box:=decide ((j:Int)∈B) } else L[j]'(Uba B L i▸h):=by
 simp only [boxI,List.getElem_mapIdx]
theorem Uhf{B:List Int}{L:List Lc}{i:Nat}(h:i<(boxI B L i).length):boxI B L (i+1)=(boxI B L i).set i { (boxI B L i)[i] with box:=decide ((i:Int)∈B) }:=by
 have hl:=Uba B L i;refine List.ext_getElem (by rw [List.length_set,Uba,Uba]) fun j h1 h2=>?_;rw [List.getElem_set,Ved];split;rename_i e;subst e;rw [Ved,Weh (show i<i+1 by omega),Wdh (show ¬ i<i by omega)];rfl;rename_i e;rw [Ved];by_cases hj:j<i;rw [Weh hj,Weh (show j<i+1 by omega)];rw [Wdh hj,Wdh (show ¬ j<i+1 by omega)]
def locP(t:Nd):List Lc:=bif fnB t then boxI (boxV (visN t 0)) (locV (visN t 0)) (locV (visN t 0)).length else []
section
variable {D:Nat→Prop} {bo bf bm:Nat} {w0:World}
theorem Zrf(hL:Laid w0)(hb3:4≤w0.heap.size)(hT:LaidT w0)(hbo:w0.heap.size≤bo)(hbm:w0.heap.size≤bm) :
  VisJ Qua #[.pointer (some ⟨bo,0,none⟩),.pointer (some ⟨bf,0,none⟩)] D w0.heap.size (fun x=>(dclD x.1≠[]→0<x.1.kids.length)∧count x.1≤1000000) (fun pre V A=>JO w0 bo bf bm pre V A) where
 go:=Yac
 g:=fun pre V A C ⟨gw,hF,hM,s,hB,hO,hV⟩ g=>⟨gw.trans g,hF.grow g,hM.grow g,s,hB.grow g,hO.grow g,hV⟩
 keep:=fun pre V A C b ⟨gw,hF,hM,s,hB,hO,hV⟩ hg hb hn=>⟨Qc gw hg (fun k hk=>by injection hk with hk;omega),hF.keep hg (Js fun e=>hb ((hV b).2 (.inr (.inl e.symm)))),hM.keep hg (Js fun e=>hb ((hV b).2 (.inr (.inr (.inl e.symm))))),s,
  hB.keep hg (Js fun e=>hb ((hV b).2 (.inl e.symm))),hO.keepB hg fun k hk e=>hb ((hV b).2 (.inr (.inr (.inr (e▸hk))))),hV⟩
 lt:=fun pre V A ⟨gw,hF,hM,s,hB,hO,hV⟩ k hk=>by
  rcases (hV k).1 hk with e|e|e|e;exact e▸hB.lt;exact e▸hF.lt;exact e▸hM.lt;exact hO.lt k e
 st:=fun pre x V A p c hQ hl hj hn hd hk=>Qag hL hb3 hT hbo hbm pre x V A p c hj hl hQ.1 hQ.2 hk
end
theorem Qpc{t:Nd}:∀ {v:Int},∀ x∈visN t v,count x.1≤count t:=by
 refine Nd.ind (C:=fun t=>∀ {v:Int},∀ x∈visN t v,count x.1≤count t) (fun t ih v x hx=>?_) t;rw [Xma] at hx;obtain ⟨k,hk,hx⟩:=List.mem_flatMap.1 hx;have hc:=Jp hk;rcases List.mem_cons.1 hx with e|hx;subst e;show count k≤_;omega;have:=ih k hk x hx;omega
set_option maxHeartbeats 1000000 in
theorem Vfd(t:Nd)(v:Value)(D:Nat→Prop)(w:World)(hL:Laid w)(hb3:4≤w.heap.size)(hT:LaidT w)(hk:Kd w D t.kids v)(hcn:count t≤1000000)(hQ:∀ x∈visN t 0,dclD x.1≠[]→0<x.1.kids.length) :
 Ret PP Wuc #[ndV t v] w fun r w'=>RetF lcCells w' (locP t) r∧G w w':=by
 have hk0:Kd w (fun b=>D b∧b<w.heap.size) t.kids v:=hk.lt;have hll:=Vdd (visN t 0);have hvl:=Wxd t 0;have g:=G.refl w;refine WK 27 [0] Zuc ?_;refine BM fun _ _ _ _ g E=>?_;refine AU ?_;refine CP (Vzc t v _) (fun w7 g7=>?_);have g:=g.trans g7;replace E:=E.grow g7;refine IF (fun h1=>?_) fun h1=>?_;replace h1:fnB t=false:=by simpa using h1
 refine RTN ?_;unfold locP;rw [h1];exact ⟨⟨Zhb _,fun _=>rfl⟩,g⟩;replace h1:fnB t=true:=by simpa using h1
 refine AN fun b3 _ _ l3 g E=>?_;refine Ze (kq (Zi (Zk (Vye O ?_))));intro b9 w9 hb9 hg9 hz9 hM;replace E:=E.grow hg9;have hgs:=g.size;have g:=g.trans hg9;refine AN fun b4 _ N4 _ g E=>?_;have hM:=hM.grow (N4.g);refine AS fun _ ga _ g E=>?_;have hM:=hM.keep ga (by intro e;injection e with e;have:=N4.at_;omega);refine Ze (kq (Zi (Zk (Ve Zh rfl rfl E.g2.row (Zq rfl (fun _=>Ybd (aq0) (aqc rfl (aqc rfl aq0))) (CL (Wyd (Zrf (D:=fun b=>D b∧b<w.heap.size) (bo:=b3) (bf:=b4) (bm:=b9) hL hb3 hT l3 (by omega)) (fun k hk=>hk.2) t v (fun k=>k=b3∨k=b4∨k=b9∨(Value.slice none 0 0).ownBlock=some k) _ g.size (fun k hk h=>by have:=hk.2;rcases h with e|e|e|e;omega;omega;omega;cases e) (hk0.grow g) ⟨g,E.g0,hM,_,E.g1,Vvc _,fun k=>Iff.rfl⟩ (fun x hx=>⟨hQ x hx,by have:=Qpc x hx;omega⟩) hcn) ?_))))));rintro v12 w12 ⟨V2,⟨gw,hF,hM,s,hB,hO,hV⟩,hs2,q12⟩;refine ⟨nw1,?_⟩;have g:=gw;replace E:=Xia w12;obtain ⟨sa,sc,rfl⟩:=hO.slice;obtain ⟨hR,hE⟩:=hO;rw [← Ygh (boxV (visN t 0)) (locV (visN t 0))] at hR;rw [Uba] at hR;refine AU ?_;replace E:=E.sel [false,false,false];refine Xo (fun (i:Nat) u1=>(i≤(locV (visN t 0)).length∧Blk u1 b4 Yza [.map (some b9)]∧MapB u1 b9 ((boxV (visN t 0)).map intV)∧Blk u1 b3 Wua [.slice sa (locV (visN t 0)).length sc]∧u1.ownsRow w.heap.size Zka 5 (.slice sa (locV (visN t 0)).length sc) (locV (visN t 0)).length ((boxI (boxV (visN t 0)) (locV (visN t 0)) i).flatMap lcCells))∧G w u1) _ [(2,True,_),(3,True,_),(4,True,_),(14,True,_)] (fun (i:Nat)=>[(15,True,.int .i64 i)]) (fun (i:Nat)=>(locV (visN t 0)).length-i) (0) ⟨⟨Nat.zero_le _,hF,hM,hB,hR⟩,g⟩ (Zz _) (Za O (Za O (Za O (Za O (Za O (Zo _)))))) ?_;rintro i u1 ⟨hI1,gl1⟩ _
 have g:=gl1;clear hF hM hB hR;obtain ⟨hi,hF,hM,hB,hR⟩:=hI1;refine Zi (Zk (Xna O O (Ze (kq (Zi (Wn O (fun h2=>?_) (fun h2=>?_)))))));replace h2:i<(locV (visN t 0)).length:=by simp only [decide_eq_true_eq] at h2;omega
 obtain ⟨g0,cap,cur,he,hg0,hC,q1,q2,q3,q4⟩:=Jed hR (by omega);injection he with he1 _ he2;subst he1 he2;have hbi:=Uba (boxV (visN t 0)) (locV (visN t 0)) i;have hfp:=Uoe (decide ((i:Int)∈boxV (visN t 0))) (boxI (boxV (visN t 0)) (locV (visN t 0)) i) i (by omega);rw [← Uhf] at hfp;refine Yb (kq (Zi (Yo (Zi (Zk (Zp O (Yr O (Ze (kq (Wf [0,3,0,3,0,3,3,2] (Yp Yla O (hB.at_ O) (Zp O (Yp Usa O (hF.at_ O) (Zp O (Wia O (Jgd (f:=intV) (a:=(i:Int)) Xof Ytg Zse hM (Zd O) (Zd O)) (Qpa Wb O O (by omega) (Yf Xqa O (?_))))))))))))))))));refine Xi (vs:=[.bool (decide ((i:Int)∈boxV (visN t 0)))]) O Zre (Zd O) (Zd O) O O hC (by rw [Nat.ble_eq];show 0+_*5+4+1≤_;rw [q3];simp only [Int.toNat_natCast];omega) O ?_;intro w25 hg25 hz25 hC25;have hR2:=Yse (vs:=[.bool (decide ((i:Int)∈boxV (visN t 0)))]) hg0 hC25 q1 q2 q3 q4 (by show 0+_*5+4+1≤_;simp only [Int.toNat_natCast];omega);have hF:=hF.keep hg25 (Js (Wlb hF hC rfl));have hB:=hB.keep hg25 (Js (Wlb hB hC rfl));have hM:=hM.keep hg25 (Js (Jka hC hM).symm);have g:=Qc g hg25 (fun k hk=>by injection hk with hk;omega);have e0:0+((i:Nat):Int).toNat*5+4=i*5+4:=by rw [Int.toNat_natCast];omega
 rw [e0] at hR2;replace hR2:=hfp▸hR2;refine AU ?_;refine SK [15,2,3,4,14] ?_;refine Ze (fun a ha=>?_);exact ⟨i+1,ha,⟨⟨h2,hF,hM,hB,hR2⟩,g⟩,Zz _,by omega⟩;replace h2:i=(locV (visN t 0)).length:=by simp only [decide_eq_false_iff_not] at h2;omega
 subst h2;refine RTN ?_;unfold locP;rw [h1];exact ⟨⟨Wgd hR (Uba _ _ _).symm,fun e=>hE (List.length_eq_zero_iff.1 (by rw [← Uba (boxV (visN t 0)) (locV (visN t 0)) (locV (visN t 0)).length];exact List.length_eq_zero_iff.2 e))⟩,g⟩
theorem Yhh{o:List (Int×Int)}{x:Nd×Int}(h:(decide (1≤(capC x).1) && !decide (capC x∈o))=true):capS o x=o++[capC x]:=by
 unfold capS;rw [show decide (0<(capC x).1)=decide (1≤(capC x).1) from decide_eq_decide.2 (by omega),h];rfl
theorem Yih{o:List (Int×Int)}{x:Nd×Int}(h:(decide (1≤(capC x).1) && !decide (capC x∈o))=false):capS o x=o:=by
 unfold capS;rw [show decide (0<(capC x).1)=decide (1≤(capC x).1) from decide_eq_decide.2 (by omega),h];rfl
def capU(us:List ((Nd×Int)×Option Addr×Nat×Nat))(i:Nat):List (Int×Int):=(us.take i).foldl (fun o u=>capS o u.1) []
theorem Qqc{us:List ((Nd×Int)×Option Addr×Nat×Nat)}{i:Nat}(h:i<us.length):capU us (i+1)=capS (capU us i) us[i].1:=by
 unfold capU;rw [Jh h,List.foldl_append];rfl
theorem Yvg(us:List ((Nd×Int)×Option Addr×Nat×Nat)):capU us us.length=capL (us.map Prod.fst):=by
 unfold capU capL;rw [List.take_length,List.foldl_map]
theorem Upe(us:List ((Nd×Int)×Option Addr×Nat×Nat)):∀ i,i≤us.length→(capU us i).length≤i
 | 0,_=>Nat.le_refl _
 | i+1,h=>by
  have:=Upe us i (by omega);rw [Qqc h];unfold capS;cases (decide (0<(capC us[i].1).1) && !decide (capC us[i].1∈capU us i));rw [cond_false];omega;rw [cond_true,List.length_append,List.length_singleton];omega
theorem Uic(l:List (Int×Int))(a b:Int)(v:Value)(w:World)(h:RowF capCells w l v)(hl:l.length≤1000000):Ret PP Xcd #[v,.agg #[.int .i64 a,.int .i64 b]] w fun r w'=>r = .bool (decide ((a,b)∈l))∧G w w':=Ueg l (a,b) v w h hl
theorem Xbe(t:Nd)(v:Value)(D:Nat→Prop)(w:World)(hk:Kd w D t.kids v)(hc:count t≤1000000):Ret PP Jkc #[ndV t v] w fun r w'=>RetF capCells w' (capT t) r∧G w w':=by
 have hul:=Uac t 0;have g:=G.refl w;refine WK 51 [0] Wvc ?_;refine BM fun _ _ _ _ g E=>?_;refine IF (fun h1=>?_) fun h1=>?_;have e1:capT t=[]:=by unfold capT;rw [show decide (t.kind=38)=false by simpa using h1];rfl
 refine RTN ?_;rw [e1];exact ⟨⟨Zhb _,fun _=>rfl⟩,g⟩;have e1:capT t=capL (useN t 0):=by unfold capT;rw [show decide (t.kind=38)=true by simpa using h1];rfl
 refine AU ?_;refine CL (Zyg t v D _ 0 (hk.grow g) hc (by omega) (by omega)) ?_;rintro v11 w11 ⟨⟨us,hm,hU⟩,g11⟩;refine ⟨fun _=>g11,?_⟩;have hml:=Znc hm;obtain ⟨pu,qu,rfl⟩:=hU.slice;have g:=g.trans g11;have hwl:=g.size;replace E:=E.grow g11;refine Yr O (Ze (kq (Zi (Zi (Zk (Yr O (Ze (kq (Yo (Jn (fun (x:Nat×Option Addr×Nat) u1=>match x with|⟨i,sa,ca⟩=>(i≤us.length∧OwF capCells Zab 2 w11.heap.size u1 (capU us i) (.slice sa (capU us i).length ca))∧G w11 u1) [(2,True,_),(4,True,_)] (fun (x:Nat×Option Addr×Nat)=>match x with|⟨i,sa,ca⟩=>[(3,True,.slice sa (capU us i).length ca),(5,True,.int .i64 i)]) (fun (x:Nat×Option Addr×Nat)=>match x with|⟨i,sa,ca⟩=>us.length-i) ((0,none,0)) ⟨⟨Nat.zero_le _,Vvc _⟩,G.refl _⟩ (Za O (Za O (Za O (Za O (Zo _))))) ?_))))))))));rintro ⟨i,sa,ca⟩ u1 ⟨hI1,gl1⟩;have g:=g.trans gl1;replace E:=E.grow gl1;obtain ⟨hi,hO⟩:=hI1;have hcu:=Upe us i hi;have hU:=hU.grow gl1;refine Zi (Zi (Zk (Zp O (Zp O (Xha Xy O (Xna O O (Ze (kq (Wn O (fun h2=>?_) (fun h2=>?_))))))))));replace h2:i<us.length:=by simp only [decide_eq_true_eq] at h2;omega
 obtain ⟨hpe,hcell⟩:=hU.1.opt Zwa h2;refine Yb (kq (Zi (Yo (Zi (Yx [3,3,3,3,3,0,3,3,3,3,0,3,3,3,3,3,3,0,3,1,2] [true,true,true,true,true,true,true,true,true,true,true,true,true,true,true,true,true,true,true,true,true] [0,0,3,7,15,31,0,0,192,448,960,2047,0,0,12288,28672,61440,126976,262143,0,1048575] mix (by kernel_rfl) ?_)))));have g:=gdr g;have gl1:=gl1.trans (G.drew _);replace E:=E.dr;have hO:=hO.grow (G.drew _);refine Zp O (Zp O (Ji Xy O O (by omega) hpe (Yf Yca O (Yf Qba O (Yp Yh O ((hcell.grow (G.drew _)).one (i:=8) O) (Zp O (Zp O (Ji Xy O O (by omega) hpe (Yf Wna O (Yp Yh O ((hcell.grow (G.drew _)).one (i:=9) O) (Zq O (fun _=>Yad (Zd O) (Zd O)) (Zp O (Zp O (Ji Xy O O (by omega) hpe (Yf Yca O (?_))))))))))))))));refine Yf Qg O (Yp Yh O ((hcell.grow (G.drew _)).one (i:=2) O) (Jv Vj Qz (pqc O (pqc O pq0)) O O (AN fun _ _ ga _ g E=>?_)));have l6_gl1:=ga.ge gl1;have hne6:=hO.nnew ga;have gl1:=gl1.trans (ga.g);have hO:=Ui hO;refine AS fun _ ga _ g E=>?_;first|replace gl1:=Ya gl1 ga (by omega)|clear gl1|skip
 have hO:=hO.keepB ga hne6;refine AU ?_;refine CG (fun hc=>Uic (capU us i) _ _ _ _ hO.ret.1 (by omega)) (fun w43 g43=>?_);have g:=g.trans g43;have gl1:=gl1.trans (g43);replace E:=E.grow g43;have hO:=hO.grow (g43);refine IF (fun h3=>?_) fun h3=>?_;replace h3:(decide (1≤(capC us[i].1).1) && !decide (capC us[i].1∈capU us i))=true:=h3;have e3:=Yhh h3;rw [← Qqc h2] at e3;refine CN fun _ _ ga _ g E=>?_;have l48_gl1:=ga.ge gl1;have hne48:=hO.nnew ga;have gl1:=gl1.trans (ga.g);have hO:=Ui hO;have hOo:=hO;refine Xwa O Wo Vj O O Uz (Zd O) hO (Zd O) (Qma (x:=capC us[i].1) E.g0 O) (Zoa Voe _) (by first|omega|(simp;omega)) O (by have:=gl1.size;omega) ?_;intro a49 c49 w49 hO hg49;replace E:=E.sel [false,false,false];have g:=Qc g hg49 (fun k hk=>(by have:=hOo.ge k hk;omega));have gl1:=Qc gl1 hg49 (fun k hk=>hOo.ge k hk);refine AU ?_;refine SK [3,5,2,4] ?_;refine Ze (fun a ha=>?_);rw [← e3] at ha hO;exact ⟨(i+1,a49,c49),ha,⟨⟨h2,hO⟩,gl1⟩,by show us.length-(i+1)<us.length-i;omega⟩;replace h3:(decide (1≤(capC us[i].1).1) && !decide (capC us[i].1∈capU us i))=false:=h3;have e3:=Yih h3;rw [← Qqc h2] at e3;refine AU ?_;refine SK [3,5,2,4] ?_;refine Ze (fun a ha=>?_);rw [← e3] at ha hO;exact ⟨(i+1,sa,ca),ha,⟨⟨h2,hO⟩,gl1⟩,by show us.length-(i+1)<us.length-i;omega⟩;replace h2:i=us.length:=by simp only [decide_eq_false_iff_not] at h2;omega
 subst h2;refine RTN ?_;rw [e1,← hm,← Yvg];exact ⟨hO.ret,g⟩
theorem Uif(l:List (Int×Int))(u v:Value)(w:World)(hu:RowF capCells w l u)(hv:RowF capCells w l v)(hl:l.length≤1000000):Ret PP Zvc #[u,v] w fun r w'=>r = .bool true∧G w w':=by
 have hu0:=hu;have hv0:=hv;obtain ⟨p,q,rfl,hq,_⟩:=hu;obtain ⟨p',q',rfl,hq',_⟩:=hv;have g:=G.refl w;refine WK 26 [0,1] Vwb ?_;refine IF (fun h1=>?_) fun h1=>?_
 ·exfalso;simp at h1
  done
 (try simp only [bsimp] at h1);refine AU ?_;refine Xo (fun (i:Nat) u1=>(i≤l.length)∧G w u1) _ [(0,True,_),(1,True,_)] (fun (i:Nat)=>[(5,True,.int .i64 i)]) (fun (i:Nat)=>l.length-i) (0) ⟨Nat.zero_le _,g⟩ (Zz _) (Za O (Za O (Za O (Zo _)))) ?_;rintro i u1 ⟨hI1,gl1⟩ _;have g:=gl1;have hi:=hI1;refine IF (fun h2=>?_) fun h2=>?_
 ·replace h2:i<l.length:=by simp only [decide_eq_true_eq] at h2;omega
  obtain ⟨hpe,hcell⟩:=(hu0.grow g).opt Uz h2;obtain ⟨hpf,hdell⟩:=(hv0.grow g).opt Uz h2;refine AU ?_;refine Yx [3,3,3,0,3,3,3,0,3] [true,true,true,true,true,true,true,true,true] [0,0,3,7,0,0,48,112,255] mix (by kernel_rfl) ?_;have g:=gdr g;refine IF (fun h3=>?_) fun h3=>?_
  ·exfalso;simp at h3
   done
  (try simp only [bsimp] at h3);refine AU ?_;refine SK [5,0,1] ?_;refine Ze (fun a ha=>?_);exact ⟨i+1,ha,⟨h2,g⟩,Zz _,by omega⟩
 skip;refine RTN ?_;exact ⟨rfl,g⟩
theorem Ujf(l:List Lc)(u v:Value)(w:World)(hu:RowF lcCells w l u)(hv:RowF lcCells w l v)(hl:l.length≤1000000):Ret PP Wtc #[u,v] w fun r w'=>r = .bool true∧G w w':=by
 have hu0:=hu;have hv0:=hv;obtain ⟨p,q,rfl,hq,_⟩:=hu;obtain ⟨p',q',rfl,hq',_⟩:=hv;have g:=G.refl w;refine WK 26 [0,1] Ztc ?_;refine IF (fun h1=>?_) fun h1=>?_
 ·exfalso;simp at h1
  done
 (try simp only [bsimp] at h1);refine AU ?_;refine Xo (fun (i:Nat) u1=>(i≤l.length)∧G w u1) _ [(0,True,_),(1,True,_)] (fun (i:Nat)=>[(5,True,.int .i64 i)]) (fun (i:Nat)=>l.length-i) (0) ⟨Nat.zero_le _,g⟩ (Zz _) (Za O (Za O (Za O (Zo _)))) ?_;rintro i u1 ⟨hI1,gl1⟩ _;have g:=gl1;have hi:=hI1;refine IF (fun h2=>?_) fun h2=>?_
 ·replace h2:i<l.length:=by simp only [decide_eq_true_eq] at h2;omega
  obtain ⟨hpe,hcell⟩:=(hu0.grow g).opt Ux h2;obtain ⟨hpf,hdell⟩:=(hv0.grow g).opt Ux h2;refine Yb (kq (Zi (Yo (Zi (Yx [3,3,3,0,3,3,3,0,3] [true,true,true,true,true,true,true,true,true] [0,0,3,7,0,0,48,112,255] mix (by kernel_rfl) ?_)))));have g:=gdr g;refine Zp O (Zp O (Ji Wb O O (by omega) hpe (Ve Qca O O (hcell.grow (G.drew _)) (Zp O (Zp O (Ji Wb O O (by omega) hpf (Ve Qca O O (hdell.grow (G.drew _)) (Zq O (fun _=>Vbg Vlc (Zd O) (Zd O) O) (Ze (kq (Wn O (fun h3=>?_) (fun h3=>?_))))))))))))
  ·exfalso;simp at h3
   done
  (try simp only [bsimp] at h3);refine AU ?_;refine SK [5,0,1] ?_;refine Ze (fun a ha=>?_);exact ⟨i+1,ha,⟨h2,g⟩,Zz _,by omega⟩
 skip;refine RTN ?_;exact ⟨rfl,g⟩
theorem Ukf(l:List Nd)(u v:Value)(D D':Nat→Prop)(w:World)(hu:Kd w D l u)(hv:Kd w D' l v)(hl:l.length≤1000000)(hc:∀ t∈l,count t≤1000000):Ret PP Uuc #[u,v] w fun r w'=>r = .bool true∧G w w':=by
 have hu0:=hu;have hv0:=hv;obtain ⟨p,q,rfl,hq,_⟩:=hu;obtain ⟨p',q',rfl,hq',_⟩:=hv;have g:=G.refl w;refine WK 27 [0,1] Xrc ?_;refine IF (fun h1=>?_) fun h1=>?_
 ·exfalso;simp at h1
  done
 (try simp only [bsimp] at h1);refine AU ?_;refine Xo (fun (i:Nat) u1=>(i≤l.length)∧G w u1) _ [(0,True,_),(1,True,_)] (fun (i:Nat)=>[(5,True,.int .i64 i)]) (fun (i:Nat)=>l.length-i) (0) ⟨Nat.zero_le _,g⟩ (Zz _) (Za O (Za O (Za O (Zo _)))) ?_;rintro i u1 ⟨hI1,gl1⟩ _;have g:=gl1;have hi:=hI1;refine IF (fun h2=>?_) fun h2=>?_
 ·replace h2:i<l.length:=by simp only [decide_eq_true_eq] at h2;omega
  obtain ⟨hpe,_,_,hcell,hkid⟩:=(hu0.grow g).opt1 h2;obtain ⟨hpf,_,_,hdell,hkie⟩:=(hv0.grow g).opt1 h2;refine AU ?_;refine Yx [3,3,3,0,3,3,3,0,1,3] [true,true,true,true,true,true,true,true,true,true] [0,0,3,7,0,0,48,112,255,511] mix (by kernel_rfl) ?_;have g:=gdr g;refine AU ?_;refine CP (Vne l[i] _ _ l[i] _ _ _ (hkid.grow (G.drew _)) (hkie.grow (G.drew _)) (hc _ (List.getElem_mem h2))) (fun w25 g25=>?_);have g:=g.trans g25;refine IF (fun h3=>?_) fun h3=>?_
  ·exfalso;simp [Vme] at h3
   done
  refine AU ?_;refine SK [5,0,1] ?_;refine Ze (fun a ha=>?_);exact ⟨i+1,ha,⟨h2,g⟩,Zz _,by omega⟩
 skip;refine RTN ?_;exact ⟨rfl,g⟩
def boxB(ds:List Nd)(i:Nat):Bool:=ds.any fun d=>decide (((1:Int),(i:Int))∈capT d)
def lcS(ds:List Nd)(o:List Lc)(k:Nd):List Lc:=o++(dclD k).map fun d=>⟨d.name,d.typ,d.par,boxB ds o.length⟩
def lcR(ds ns:List Nd):List Lc:=ns.foldl (lcS ds) []
theorem Uqe(ds:List Nd){ns:List Nd}{i:Nat}(h:i<ns.length):lcR ds (ns.take (i+1))=lcS ds (lcR ds (ns.take i)) ns[i]:=by
 unfold lcR;rw [Jh h,List.foldl_append];rfl
theorem Qbg(ds:List Nd)(o:List Lc)(k:Nd):(lcS ds o k).length≤o.length+1:=by
 unfold lcS dclD;rw [List.length_append,List.length_map];cases decide (k.kind=3);cases decide (k.kind=6);cases decide (k.kind=11) <;> simp
 exact Nat.le_refl _;exact Nat.le_refl _
theorem Xce(ds ns:List Nd):∀ i,i≤ns.length→(lcR ds (ns.take i)).length≤i
 | 0,_=>by rw [List.take_zero];exact Nat.le_refl _
 | i+1,h=>by
  have:=Xce ds ns i (by omega);rw [Uqe ds h];have:=Qbg ds (lcR ds (ns.take i)) ns[i];omega
theorem Qcg{x:Nd}(h:(decide (x.kind=3) || decide (x.kind=6))=true):dclD x=[⟨x.text,(ofF (Zb x 0)).1,decide (x.kind=3)⟩]:=by
 unfold dclD;cases h3:decide (x.kind=3);rw [h3,Bool.false_or] at h;rw [h];rfl;rfl
theorem Ure{α:Type}{f:α→Bool}{l:List α}{i:Nat}(h:i<l.length):(l.take (i+1)).any f=((l.take i).any f || f l[i]):=by
 rw [Jh h,List.any_append];simp
def hdx{k:Nd}{d:Dc}(h:dclD k=[d]):Dc:=d
def locR(t:Nd):List Lc:=bif fnB t then lcR (dirT t) (ownN t) else []
theorem Jmd(t:Nd):(capT t).length≤count t:=by
 unfold capT;cases decide (t.kind=38);exact Nat.zero_le _
 have key:∀ (l:List (Nd×Int)) (o:List (Int×Int)),(l.foldl capS o).length≤o.length+l.length:=by
  intro l
  induction l with
  | nil=>intro o;exact Nat.le_refl _
  | cons x l ih =>
   intro o;rw [List.foldl_cons,List.length_cons];have:=ih (capS o x)
   have h2:(capS o x).length≤o.length+1:=by
    unfold capS;cases (decide (0<(capC x).1) && !decide (capC x∈o));rw [cond_false];omega;rw [cond_true,List.length_append,List.length_singleton];omega
   omega
 have h1:=key (useN t 0) [];have h2:=Uac t 0;show ((useN t 0).foldl capS []).length≤_;simp at h1;omega
set_option maxHeartbeats 4000000 in
theorem Zsf(t:Nd)(v:Value)(D:Nat→Prop)(w:World)(hk:Kd w D t.kids v)(hcn:count t≤1000000)(hQ:∀ k∈ownN t,dclD k≠[]→0<k.kids.length)(hC:∀ k∈ownN t,count k≤1000000) :
 Ret PP Vwd #[ndV t v] w fun r w'=>RetF lcCells w' (locR t) r∧G w w':=by
 have hln:=Xzb t;have hk0:Kd w (fun b=>D b∧b<w.heap.size) t.kids v:=hk.lt
 have hdl:(dirT t).length≤(ownN t).length:=by
  unfold dirT;cases fnB t;exact Nat.zero_le _;exact List.length_filter_le _ _
 have hdc:∀ k∈dirT t,count k≤1000000:=fun k hk=>by
  unfold dirT at hk;cases hf:fnB t;rw [hf] at hk;cases hk;rw [hf] at hk;exact hC k (List.mem_filter.1 hk).1
 have g:=G.refl w;refine WK 90 [0] Jjc ?_;refine BM fun _ _ _ _ g E=>?_;refine AU ?_;refine CP (Jja t v _) (fun w10 g10=>?_);have g:=g.trans g10;replace E:=E.grow g10;refine IF (fun h1=>?_) fun h1=>?_;replace h1:fnB t=false:=by simpa using h1
 refine RTN ?_;unfold locR;rw [h1];exact ⟨⟨Zhb _,fun _=>rfl⟩,g⟩;replace h1:fnB t=true:=by simpa using h1
 refine AU ?_;refine CL (Xgf t v (fun b=>D b∧b<w.heap.size) _ (hk0.grow g) hcn) ?_;rintro v13 w13 ⟨⟨hs4,_⟩,g13⟩;refine ⟨fun _=>g13,?_⟩;have g:=g.trans g13;have hs4:=hs4.lt;replace E:=E.grow g13;refine AU ?_;refine CL (Wud t v (fun b=>D b∧b<w.heap.size) _ (hk0.grow g) hcn) ?_;rintro v15 w15 ⟨hs5,g15⟩;refine ⟨fun _=>g15,?_⟩;have g:=g.trans g15;have hs4:=hs4.grow g15;obtain ⟨n1,hn1⟩:∃ n,n=w15.heap.size:=⟨_,rfl⟩;have hwn:w.heap.size≤n1:=by rw [hn1];exact g.size
 have hs4:Kd w15 (fun k=>k<n1) (ownN t) v13:=Kd.mono hs4 fun k _ h=>by rw [hn1];exact h
 have hs5:Kd w15 (fun k=>k<n1) (dirT t) v15:=Kd.mono hs5 fun k _ h=>by rw [hn1];exact h
 obtain ⟨p4,c4,rfl,_⟩:=id hs4;obtain ⟨p5,c5,rfl,_⟩:=id hs5;replace E:=E.grow g15;refine AU ?_;replace E:=E.sel [false];refine Xo (fun (x:Nat×Option Addr×Nat) u1=>match x with|⟨i,sa,ca⟩=>(i≤(ownN t).length∧n1≤u1.heap.size∧Kd u1 (fun k=>k<n1) (ownN t) (.slice p4 (ownN t).length c4)∧Kd u1 (fun k=>k<n1) (dirT t) (.slice p5 (dirT t).length c5)∧OwF lcCells Zka 5 n1 u1 (lcR (dirT t) ((ownN t).take i)) (.slice sa (lcR (dirT t) ((ownN t).take i)).length ca))∧G w u1) _ [(2,True,_),(4,True,_),(5,True,_)] (fun (x:Nat×Option Addr×Nat)=>match x with|⟨i,sa,ca⟩=>[(3,True,.slice sa (lcR (dirT t) ((ownN t).take i)).length ca),(6,True,.int .i64 i)]) (fun (x:Nat×Option Addr×Nat)=>match x with|⟨i,sa,ca⟩=>(ownN t).length-i) ((0,none,0)) ⟨⟨Nat.zero_le _,Nat.le_of_eq hn1,hs4,hs5,Vvc _⟩,g⟩ (Zz _) (Za O (Za O (Za O (Za O (Za O (Zo _)))))) ?_;rintro ⟨i,sa,ca⟩ u1 ⟨hI1,gl1⟩ _;have g:=gl1;clear hs4 hs5;obtain ⟨hi,hnu,hs4,hs5,hO⟩:=hI1;have hrl:=Xce (dirT t) (ownN t) i hi;refine IF (fun h2=>?_) fun h2=>?_;replace h2:i<(ownN t).length:=by simp only [decide_eq_true_eq] at h2;omega
 obtain ⟨hpe,p',c',hcell,hkid⟩:=hs4.opt1 h2;have hp4:pb p4<n1:=Wca (t:=.mk 0 [] 0 0 (ownN t) ty0 0 0) hs4 h2;have hst:=Uqe (dirT t) h2;have hmem:=List.getElem_mem h2;have hkl:=Wz (ownN t)[i];have hkc:=hC _ hmem;have hq:=hQ _ hmem;refine Yb (kq (Zi (Yo (Zi (Yx [3,3,3,3,0,3,3,3,3,0,3,3,1,2] [true,true,true,true,true,true,true,true,true,true,true,true,true,true] [0,0,3,7,15,0,0,96,224,480,992,2047,0,8191] mix (by kernel_rfl) ?_)))));have g:=gdr g;have hO:=hO.grow (G.drew _);have hnu:=Nat.le_trans hnu (G.size (G.drew _));have hs4:=hs4.grow (G.drew _);have hs5:=hs5.grow (G.drew _);have hcell:=hcell.grow (G.drew _);have hkid:=hkid.grow (G.drew _);refine Zp O (Zp O (Ji Zc O O (by omega) hpe (Yf Yn O (Yp Yg O (hcell.one (i:=1) O) (Zp O (Zp O (Ji Zc O O (by omega) hpe (Yf Xl O (Yp Yh O (hcell.one (i:=0) O) (Zya O O (Jv Uq Waa (pqc O (pqc O pq0)) O O (AM fun b7 _ ga _ g E=>?_))))))))))));have hne7:=hO.nnew ga;have hnb7:n1≤b7:=by rw [ga.at_];exact hnu
 have hO:=Ui hO;have hnu:=Nat.le_trans hnu (G.size (ga.g));have hs4:=Ui hs4;have hs5:=Ui hs5;have hcell:=Ui hcell;have hkid:=Ui hkid;refine AS fun _ ga _ g E=>?_;have hO:=hO.keepB ga hne7;have hnu:=Nat.le_trans hnu ga.size;have hs4:=hs4.keep ga (fun k hk _ he=>by injection he with he;omega);have hs5:=hs5.keep ga (fun k hk _ he=>by injection he with he;omega);have hcell:=Vz hcell ga (by have:=hp4;omega);have hkid:=hkid.keep ga (fun k hk _ he=>by injection he with he;omega);refine AU ?_;refine' OR [2,3,4,5,6,7,38] (fun hb3=>?y3) (kq ?n3)
 case y3 =>
  refine AU ?_;refine SK [39,2,3,4,5,6,7,38] ?_;exact Ze knr
 case n3 =>
  refine IF (fun h4=>?_) fun h4=>?_;replace h4:(decide ((ownN t)[i].kind=3) || decide ((ownN t)[i].kind=6))=true:=h4;have hd:dclD (ownN t)[i]=[⟨(ownN t)[i].text,(ofF (Zb (ownN t)[i] 0)).1,decide ((ownN t)[i].kind=3)⟩]:=Qcg h4;have h0:=hq (by rw [hd];simp);have hkb:=Wca hkid h0;have hpk:pb p'<n1:=hkb;obtain ⟨hpk1,p1,c1,hcel1,hkid1⟩:=Yl hkid h0;have hln1:=Wz (Zb (ownN t)[i] 0);refine AU ?_;refine CL (Ytb (Zb (ownN t)[i] 0) _ _ _) ?_;rintro _ _ ⟨rfl,ga⟩;refine RC fun g E=>?_;have hO:=Uk hO;have hnu:=Nat.le_trans hnu (G.size (ga));have hs4:=Uk hs4;have hs5:=Uk hs5;have hcell:=Uk hcell;have hcel1:=Uk hcel1;refine AU ?_;refine Xi O We (Zd O) (Zd O) O O E.g0 O O ?_;intro wS2 hgS2 _ BS;replace E:=E.s0 hgS2 BS;have g:=Ya g hgS2 (by omega);have hO:=hO.keepB hgS2 hne7;have hnu:=Nat.le_trans hnu hgS2.size;have hs4:=hs4.keep hgS2 (fun k hk _ he=>by injection he with he;omega);have hs5:=hs5.keep hgS2 (fun k hk _ he=>by injection he with he;omega);have hcell:=Vz hcell hgS2 (by have:=hp4;omega);have hcel1:=Vz hcel1 hgS2 (by have:=hpk;omega);refine Ze (kq (Zi (Zi (Zk (Yr O (Ze (kq (Yo (?_)))))))));have hnd2:=E.1
  refine Xo (fun (k:Nat) u2=>(k≤(dirT t).length∧n1≤u2.heap.size∧Kd u2 (fun k=>k<n1) (ownN t) (.slice p4 (ownN t).length c4)∧Kd u2 (fun k=>k<n1) (dirT t) (.slice p5 (dirT t).length c5)∧OwF lcCells Zka 5 n1 u2 (lcR (dirT t) ((ownN t).take i)) (.slice sa (lcR (dirT t) ((ownN t).take i)).length ca)∧Blk u2 b7 Zka [Str (ownN t)[i].text,.int .i64 (ofF (Zb (ownN t)[i] 0)).1.kind,Str (ofF (Zb (ownN t)[i] 0)).1.name,.bool (decide ((ownN t)[i].kind=3)),.bool (((dirT t).take k).any fun d=>decide (((1:Int),((lcR (dirT t) ((ownN t).take i)).length:Int))∈capT d))])∧G w u2) _ [(2,True,_),(3,True,_),(4,True,_),(5,True,_),(6,True,_),(7,True,_)] (fun (k:Nat)=>[(8,True,.int .i64 k)]) (fun (k:Nat)=>(dirT t).length-k) (0) ⟨⟨Nat.zero_le _,hnu,hs4,hs5,hO,E.g0⟩,g⟩ (Zz _) (Za O (Za O (Za O (Za O (Za O (Za O (Za O (Zo _)))))))) ?_;clear E;rintro k u2 ⟨hI2,gl2⟩ _;have g:=gl2;clear hs4 hs5 hO;obtain ⟨hik,hnu,hs4,hs5,hO,B7⟩:=hI2;have E:=Jo (L:=[(b7,_,_)]) hnd2 ⟨B7,trivial⟩ rfl;refine Zi (Zi (Zk (Zp O (Zp O (Xha Zc O (Xna O O (Ze (kq (Wn O (fun h5=>?_) (fun h5=>?_))))))))));replace h5:k<(dirT t).length:=by simp only [decide_eq_true_eq] at h5;omega
  have hkd:k<(dirT t).length:=h5;obtain ⟨hde,p9,c9,hdell,hdkid⟩:=hs5.opt1 hkd;have hat:=Ure (f:=fun d=>decide (((1:Int),((lcR (dirT t) ((ownN t).take i)).length:Int))∈capT d)) h5;refine Yb (kq (Zi (Yo (Zk (Yf Xqa O (Yp Jcb O (E.g0.at_ O) (Zp O (Zj O O O (fun _=>Zl (Zd O)) (Zj O O O (fun _=>Zl (Zd O)) (Zj O O O (fun _=>Xb Zc (Zm O id) (Zm O id) (fun _=>by omega) (fun _=>hde)) (Yk O O O (Zy Zh (Zm O id) O (fun _=>hdell)) (Yxd O O O (fun _=>Yi Vtb Vc (Ym (Zm O id) (Xh)) O) (fun hc=>Xbe _ _ (fun k=>k<n1) _ hdkid (hdc _ (List.getElem_mem hkd))) ?_))))))))))));intro v78 w78 hv78 g78;have g:=g.trans g78;replace E:=E.grow g78;have hO:=hO.grow (g78);have hnu:=Nat.le_trans hnu (G.size (g78));have hs4:=hs4.grow (g78);have hs5:=hs5.grow (g78);have hdell:=hdell.grow (g78);have hdkid:=hdkid.grow (g78);refine Zj O O O (fun _=>Zl (Zd O)) (Zj O O O (fun _=>Vna Wb (Zm O id)) (Zj O O O (fun _=>Uv [_,_] Vj O Qz (Xn Xg (Xn (Zm O id) (Vk))) O) (Xt O O O (fun _=>(Yi Xsc Vc (Ym (Zm O id) (Ym (Zm O id) (Xh))) O)) (fun hc=>(show Ret PP _ _ w78 (fun r w'=>r = .bool (decide (((1:Int),((lcR (dirT t) ((ownN t).take i)).length:Int))∈capT ((dirT t)[k]'hkd)))∧G w78 w') from Uic _ _ _ _ _ (hv78 hc).1 (by have:=Jmd ((dirT t)[k]'hkd);have:=hdc _ (List.getElem_mem hkd);omega))) (fun w82 g82=>?_))));have g:=g.trans g82;replace E:=E.grow g82;have hO:=hO.grow (g82);have hnu:=Nat.le_trans hnu (G.size (g82));have hs4:=hs4.grow (g82);have hs5:=hs5.grow (g82);have hdell:=hdell.grow (g82);have hdkid:=hdkid.grow (g82);refine AS fun _ ga _ g E=>?_;have hO:=hO.keepB ga hne7;have hnu:=Nat.le_trans hnu ga.size;have hs4:=hs4.keep ga (fun k hk _ he=>by injection he with he;omega)
  have hs5:=hs5.keep ga (fun k hk _ he=>by injection he with he;omega);refine AU ?_;refine SK [8,2,3,4,5,6,7] ?_;refine Ze (fun a ha=>?_);exact ⟨k+1,ha,⟨⟨h5,hnu,hs4,hs5,hO,by rw [hat];exact E.g0⟩,g⟩,(Zz _),by omega⟩;replace h5:k=(dirT t).length:=by simp only [decide_eq_false_iff_not] at h5;omega
  subst h5;rw [List.take_length] at E;have hfin:lcR (dirT t) ((ownN t).take (i+1))=lcR (dirT t) ((ownN t).take i)++[⟨(hdx hd).name,(hdx hd).typ,(hdx hd).par,boxB (dirT t) (lcR (dirT t) ((ownN t).take i)).length⟩]:=by rw [hst];unfold lcS;rw [hd];rfl
  refine CN fun b87 _ ga l87 g E=>?_;have hne87:=hO.nnew ga;have hnb87:n1≤b87:=by rw [ga.at_];exact hnu
  have hO:=Ui hO;have hnu:=Nat.le_trans hnu (G.size (ga.g));have hs4:=Ui hs4;have hs5:=Ui hs5;have hOo:=hO;refine Xwa O Wb Uq O O Ux (Zd O) hO (Zd O) (Qma (x:=⟨(hdx hd).name,(hdx hd).typ,(hdx hd).par,boxB (dirT t) (lcR (dirT t) ((ownN t).take i)).length⟩) E.g0 O) (Zoa Vxc _) (by simp;omega) O hnu ?_;intro a88 c88 w88 hO hg88;replace E:=E.sel [false,false];have g:=Qc g hg88 (fun k hk=>(by have:=hOo.ge k hk;omega));have hnu:=Nat.le_trans hnu hg88.size;have hs4:=hs4.keep hg88 (fun k hk _ he=>by have:=hOo.ge k he.symm;omega);have hs5:=hs5.keep hg88 (fun k hk _ he=>by have:=hOo.ge k he.symm;omega);refine AU ?_;refine SK [3,6,2,4,5] ?_;refine Ze (fun a ha=>?_);rw [← hfin] at ha hO;exact ⟨(i+1,a88,c88),ha,⟨⟨h2,hnu,hs4,hs5,hO⟩,g⟩,(Zz _),by show (ownN t).length-(i+1)<(ownN t).length-i;omega⟩;replace h4:(decide ((ownN t)[i].kind=3) || decide ((ownN t)[i].kind=6))=false:=h4;obtain ⟨h3,h3b⟩:=Bool.or_eq_false_iff.1 h4;refine Zi (Zk (Zya O O (Yr O (Ze (kq (Wn O (fun h6=>?_) (fun h6=>?_)))))));replace h6:(ownN t)[i].kind=11:=of_decide_eq_true h6;have hd:dclD (ownN t)[i]=[⟨(ownN t)[i].text,(Zb (ownN t)[i] 0).ty,decide ((ownN t)[i].kind=3)⟩]:=by unfold dclD;rw [h6];rfl
  have h0:=hq (by rw [hd];simp);have hkb:=Wca hkid h0;have hpk:pb p'<n1:=hkb;obtain ⟨hpk1,p1,c1,hcel1,hkid1⟩:=Yl hkid h0;have hln1:=Wz (Zb (ownN t)[i] 0);refine Zk (Zp O (Zp O (Ji Zc O O (by omega) hpe (Yf Zg O (Yp Zf O (hcell.one (i:=4) O) (Ji Zc O O (by omega) hpk1 (Yf Wk O (Ve Xd O O (hcel1.part 5 2) (Yf Jeb O (Xi O We (Zd O) (Zd O) O O E.g0 O O ?_))))))))));intro wS4 hgS4 _ BS;replace E:=E.s0 hgS4 BS;have g:=Ya g hgS4 (by omega);have hO:=hO.keepB hgS4 hne7;have hnu:=Nat.le_trans hnu hgS4.size;have hs4:=hs4.keep hgS4 (fun k hk _ he=>by injection he with he;omega);have hs5:=hs5.keep hgS4 (fun k hk _ he=>by injection he with he;omega);have hcell:=Vz hcell hgS4 (by have:=hp4;omega);have hcel1:=Vz hcel1 hgS4 (by have:=hpk;omega);refine Ze (kq (Zi (Zi (Zk (Yr O (Ze (kq (Yo (?_)))))))));have hnd3:=E.1;refine Xo (fun (k:Nat) u3=>(k≤(dirT t).length∧n1≤u3.heap.size∧Kd u3 (fun k=>k<n1) (ownN t) (.slice p4 (ownN t).length c4)∧Kd u3 (fun k=>k<n1) (dirT t) (.slice p5 (dirT t).length c5)∧OwF lcCells Zka 5 n1 u3 (lcR (dirT t) ((ownN t).take i)) (.slice sa (lcR (dirT t) ((ownN t).take i)).length ca)∧Blk u3 b7 Zka [Str (ownN t)[i].text,.int .i64 (Zb (ownN t)[i] 0).ty.kind,Str (Zb (ownN t)[i] 0).ty.name,.bool (decide ((ownN t)[i].kind=3)),.bool (((dirT t).take k).any fun d=>decide (((1:Int),((lcR (dirT t) ((ownN t).take i)).length:Int))∈capT d))])∧G w u3) _ [(2,True,_),(3,True,_),(4,True,_),(5,True,_),(6,True,_),(7,True,_)] (fun (k:Nat)=>[(8,True,.int .i64 k)]) (fun (k:Nat)=>(dirT t).length-k) (0) ⟨⟨Nat.zero_le _,hnu,hs4,hs5,hO,E.g0⟩,g⟩ (Zz _) (Za O (Za O (Za O (Za O (Za O (Za O (Za O (Zo _)))))))) ?_;clear E;rintro k u3 ⟨hI3,gl3⟩ _;have g:=gl3
  clear hs4 hs5 hO;obtain ⟨hik,hnu,hs4,hs5,hO,B7⟩:=hI3;have E:=Jo (L:=[(b7,_,_)]) hnd3 ⟨B7,trivial⟩ rfl;refine Zi (Zi (Zk (Zp O (Zp O (Xha Zc O (Xna O O (Ze (kq (Wn O (fun h7=>?_) (fun h7=>?_))))))))));replace h7:k<(dirT t).length:=by simp only [decide_eq_true_eq] at h7;omega
  have hkd:k<(dirT t).length:=h7;obtain ⟨hde,p9,c9,hdell,hdkid⟩:=hs5.opt1 hkd;have hat:=Ure (f:=fun d=>decide (((1:Int),((lcR (dirT t) ((ownN t).take i)).length:Int))∈capT d)) h7;refine Yb (kq (Zi (Yo (Zk (Yf Xqa O (Yp Jcb O (E.g0.at_ O) (Zp O (Zj O O O (fun _=>Zl (Zd O)) (Zj O O O (fun _=>Zl (Zd O)) (Zj O O O (fun _=>Xb Zc (Zm O id) (Zm O id) (fun _=>by omega) (fun _=>hde)) (Yk O O O (Zy Zh (Zm O id) O (fun _=>hdell)) (Yxd O O O (fun _=>Yi Vtb Vc (Ym (Zm O id) (Xh)) O) (fun hc=>Xbe _ _ (fun k=>k<n1) _ hdkid (hdc _ (List.getElem_mem hkd))) ?_))))))))))));intro v78 w78 hv78 g78;have g:=g.trans g78;replace E:=E.grow g78;have hO:=hO.grow (g78);have hnu:=Nat.le_trans hnu (G.size (g78));have hs4:=hs4.grow (g78);have hs5:=hs5.grow (g78);have hdell:=hdell.grow (g78);have hdkid:=hdkid.grow (g78);refine Zj O O O (fun _=>Zl (Zd O)) (Zj O O O (fun _=>Vna Wb (Zm O id)) (Zj O O O (fun _=>Uv [_,_] Vj O Qz (Xn Xg (Xn (Zm O id) (Vk))) O) (Xt O O O (fun _=>(Yi Xsc Vc (Ym (Zm O id) (Ym (Zm O id) (Xh))) O)) (fun hc=>(show Ret PP _ _ w78 (fun r w'=>r = .bool (decide (((1:Int),((lcR (dirT t) ((ownN t).take i)).length:Int))∈capT ((dirT t)[k]'hkd)))∧G w78 w') from Uic _ _ _ _ _ (hv78 hc).1 (by have:=Jmd ((dirT t)[k]'hkd);have:=hdc _ (List.getElem_mem hkd);omega))) (fun w82 g82=>?_))));have g:=g.trans g82;replace E:=E.grow g82;have hO:=hO.grow (g82);have hnu:=Nat.le_trans hnu (G.size (g82));have hs4:=hs4.grow (g82);have hs5:=hs5.grow (g82);have hdell:=hdell.grow (g82);have hdkid:=hdkid.grow (g82);refine AS fun _ ga _ g E=>?_;have hO:=hO.keepB ga hne7;have hnu:=Nat.le_trans hnu ga.size;have hs4:=hs4.keep ga (fun k hk _ he=>by injection he with he;omega)
  have hs5:=hs5.keep ga (fun k hk _ he=>by injection he with he;omega);refine AU ?_;refine SK [8,2,3,4,5,6,7] ?_;refine Ze (fun a ha=>?_);exact ⟨k+1,ha,⟨⟨h7,hnu,hs4,hs5,hO,by rw [hat];exact E.g0⟩,g⟩,(Zz _),by omega⟩;replace h7:k=(dirT t).length:=by simp only [decide_eq_false_iff_not] at h7;omega
  subst h7;rw [List.take_length] at E;have hfin:lcR (dirT t) ((ownN t).take (i+1))=lcR (dirT t) ((ownN t).take i)++[⟨(hdx hd).name,(hdx hd).typ,(hdx hd).par,boxB (dirT t) (lcR (dirT t) ((ownN t).take i)).length⟩]:=by rw [hst];unfold lcS;rw [hd];rfl
  refine CN fun b87 _ ga _ g E=>?_;have hne87:=hO.nnew ga;have hnb87:n1≤b87:=by rw [ga.at_];exact hnu
  have hO:=Ui hO;have hnu:=Nat.le_trans hnu (G.size (ga.g));have hs4:=Ui hs4;have hs5:=Ui hs5;have hOo:=hO;refine Xwa O Wb Uq O O Ux (Zd O) hO (Zd O) (Qma (x:=⟨(hdx hd).name,(hdx hd).typ,(hdx hd).par,boxB (dirT t) (lcR (dirT t) ((ownN t).take i)).length⟩) E.g0 O) (Zoa Vxc _) (by simp;omega) O hnu ?_;intro a88 c88 w88 hO hg88;replace E:=E.sel [false,false];have g:=Qc g hg88 (fun k hk=>(by have:=hOo.ge k hk;omega));have hnu:=Nat.le_trans hnu hg88.size;have hs4:=hs4.keep hg88 (fun k hk _ he=>by have:=hOo.ge k he.symm;omega);have hs5:=hs5.keep hg88 (fun k hk _ he=>by have:=hOo.ge k he.symm;omega);refine AU ?_;refine SK [3,6,2,4,5] ?_;refine Ze (fun a ha=>?_);rw [← hfin] at ha hO;exact ⟨(i+1,a88,c88),ha,⟨⟨h2,hnu,hs4,hs5,hO⟩,g⟩,(Zz _),by show (ownN t).length-(i+1)<(ownN t).length-i;omega⟩;have hd:dclD (ownN t)[i]=[]:=by unfold dclD;rw [h3,h3b,h6];rfl
  have hfin:lcR (dirT t) ((ownN t).take (i+1))=lcR (dirT t) ((ownN t).take i):=by rw [hst];unfold lcS;rw [hd];exact List.append_nil _
  refine AU ?_;refine SK [3,6,2,4,5] ?_;refine Ze (fun a ha=>?_);rw [← hfin] at ha hO;exact ⟨(i+1,sa,ca),ha,⟨⟨h2,hnu,hs4,hs5,hO⟩,g⟩,(Zz _),by show (ownN t).length-(i+1)<(ownN t).length-i;omega⟩
 replace h2:i=(ownN t).length:=by simp only [decide_eq_false_iff_not] at h2;omega
 subst h2;rw [List.take_length] at hO;refine RTN ?_;unfold locR;rw [h1,List.take_length];exact ⟨hO.ret,g⟩
theorem Ywg(t:Nd):locV (visN t 0)=((ownN t).flatMap dclD).map lc0:=by
 have key:∀ l:List (Nd×Int),locV l=(((l.filter fun x=>decide (x.2≤0)).map Prod.fst).flatMap dclD).map lc0:=by
  intro l
  induction l with
  | nil=>rfl
  | cons x l ih =>
   show locX x++locV l=_;rw [ih,List.filter_cons];unfold locX;by_cases h:x.2≤0;rw [Weh h,Wdh (show ¬ 0<x.2 by omega)];simp;rw [Wdh h,Weh (show 0<x.2 by omega)];simp
 rw [key,Vyc]
theorem Use:∀ {l:List (Int×Int)} {o:List Int} {i:Int},i∈l.foldl boxS o↔i∈o∨((1:Int),i)∈l
 | [],o,i=>by simp
 | c::l,o,i=>by
  rw [List.foldl_cons,Use]
  have h:i∈boxS o c↔i∈o∨(c.1=1∧i=c.2):=by
   unfold boxS;cases h1:decide (c.1=1);rw [cond_false];exact ⟨.inl,fun q=>q.elim id fun q=>absurd q.1 (of_decide_eq_false h1)⟩;rw [cond_true];have h1:=of_decide_eq_true h1;cases h2:decide (c.2∈o);rw [cond_false,List.mem_append,List.mem_singleton];exact ⟨fun q=>q.imp id fun q=>⟨h1,q⟩,fun q=>q.imp id fun q=>q.2⟩;rw [cond_true];exact ⟨.inl,fun q=>q.elim id fun q=>by rw [q.2];exact of_decide_eq_true h2⟩
  rw [h,List.mem_cons];constructor;rintro ((q|⟨q1,q2⟩)|q);exact .inl q;exact .inr (.inl (by rw [← q1,q2]));exact .inr (.inr q);rintro (q|q|q);exact .inl (.inl q);exact .inl (.inr ⟨by rw [← q],by rw [← q]⟩);exact .inr q
theorem Yxg{i:Int}(pre:List (Nd×Int)):i∈boxV pre↔∃ x∈pre,x.2≤0∧x.1.kind=38∧((1:Int),i)∈capT x.1:=by
 have key:∀ (l:List (Nd×Int)) (o:List Int),i∈l.foldl boxX o↔i∈o∨∃ x∈l,x.2≤0∧x.1.kind=38∧((1:Int),i)∈capT x.1:=by
  intro l
  induction l with
  | nil=>intro o;simp
  | cons x l ih =>
   intro o;rw [List.foldl_cons,ih]
   have h:i∈boxX o x↔i∈o∨(x.2≤0∧x.1.kind=38∧((1:Int),i)∈capT x.1):=by
    unfold boxX;by_cases h:x.2≤0∧x.1.kind=38;rw [Wdh (show ¬ 0<x.2 by omega),Weh h.2];show i∈(capT x.1).foldl boxS o↔_;rw [Use];exact ⟨fun q=>q.imp id fun q=>⟨h.1,h.2,q⟩,fun q=>q.imp id fun q=>q.2.2⟩
    have e:(!decide (0<x.2)&&decide (x.1.kind=38))=false:=by
     rw [Bool.and_eq_false_iff,Bool.not_eq_false',decide_eq_true_eq,decide_eq_false_iff_not];by_cases h1:0<x.2;exact .inl h1;exact .inr fun h2=>h ⟨by omega,h2⟩
    rw [e,cond_false];exact ⟨.inl,fun q=>q.elim id fun q=>absurd ⟨q.1,q.2.1⟩ h⟩
   rw [h];constructor;rintro ((q|q)|⟨y,hy,q⟩);exact .inl q;exact .inr ⟨x,List.mem_cons_self,q⟩;exact .inr ⟨y,List.mem_cons_of_mem _ hy,q⟩;rintro (q|⟨y,hy,q⟩);exact .inl (.inl q);rcases List.mem_cons.1 hy with e|hy;subst e;exact .inl (.inr q);exact .inr ⟨y,hy,q⟩
 have:=key pre [];simpa [boxV] using this
theorem dirN_mem{t d:Nd}:d∈dirN t↔∃ x∈visN t 0,x.2≤0∧x.1.kind=38∧x.1=d:=by
 unfold dirN;rw [List.mem_filter,← Vyc t 0,List.mem_map];constructor;rintro ⟨⟨x,hx,e⟩,hk⟩;obtain ⟨h1,h2⟩:=List.mem_filter.1 hx;exact ⟨x,h1,of_decide_eq_true h2,by rw [e];exact of_decide_eq_true hk,e⟩;rintro ⟨x,h1,h2,h3,e⟩;exact ⟨⟨x,List.mem_filter.2 ⟨h1,Weh h2⟩,e⟩,by rw [← e];exact Weh h3⟩
theorem Qdg(t:Nd)(i:Nat):boxB (dirN t) i=decide ((i:Int)∈boxV (visN t 0)):=by
 rw [Bool.eq_iff_iff,decide_eq_true_eq,Yxg];unfold boxB;rw [List.any_eq_true];constructor;rintro ⟨d,hd,h⟩;obtain ⟨x,h1,h2,h3,e⟩:=dirN_mem.1 hd;exact ⟨x,h1,h2,h3,by rw [e];exact of_decide_eq_true h⟩;rintro ⟨x,h1,h2,h3,h⟩;exact ⟨x.1,dirN_mem.2 ⟨x,h1,h2,h3,rfl⟩,Weh h⟩
def lcM(ds:List Nd)(i:Nat)(d:Dc):Lc:=⟨d.name,d.typ,d.par,boxB ds i⟩
theorem Ztf(k:Nd):dclD k=[]∨∃ d,dclD k=[d]:=by
 have:=Une k
 match h:dclD k with
 | []=>exact .inl rfl
 | [d]=>exact .inr ⟨d,rfl⟩
 | a::b::l=>rw [h] at this;simp at this
theorem Qeg(ds ns:List Nd):lcR ds ns=(ns.flatMap dclD).mapIdx (lcM ds):=by
 have key:∀ (ns:List Nd) (l:List Dc),ns.foldl (lcS ds) (l.mapIdx (lcM ds))=(l++ns.flatMap dclD).mapIdx (lcM ds):=by
  intro ns
  induction ns with
  | nil=>intro l;simp
  | cons k ns ih =>
   intro l
   have h:lcS ds (l.mapIdx (lcM ds)) k=(l++dclD k).mapIdx (lcM ds):=by
    unfold lcS;rcases Ztf k with e|⟨d,e⟩;rw [e];simp;rw [e,List.mapIdx_append];simp [lcM]
   rw [List.foldl_cons,h,ih,List.flatMap_cons,List.append_assoc]
 exact key ns []
theorem Yyg(t:Nd):locP t=locR t:=by
 unfold locP locR;cases h:fnB t;rfl;rw [cond_true,cond_true,Qeg,Ywg,show dirT t=dirN t by unfold dirT;rw [h];rfl];unfold boxI;apply List.ext_getElem (by simp);intro j h1 h2;have hj:j<((ownN t).flatMap dclD).length:=by simpa using h2
 simp only [List.getElem_mapIdx,List.getElem_map];rw [Weh (show j<(((ownN t).flatMap dclD).map lc0).length by rw [List.length_map];exact hj)];show (⟨_,_,_,_⟩:Lc)=⟨_,_,_,boxB (dirN t) j⟩;rw [Qdg];rfl
theorem Yzg{F:Nd}(H:FSh F):∀ (n:Nat) (t:Nd),count t≤n→CkOk F t:=by
 intro n
 induction n with
 | zero=>intro t h;exact absurd h (by have:=Uo t;omega)
 | succ n ihn =>
  intro t hc;have K:∀ i,i<t.kids.length→CkOk F (Zb t i):=fun i h=>ihn _ (by have:=Jk h;omega);have K2:∀ i,i<t.kids.length→∀ j,j<(Zb t i).kids.length→CkOk F (Zb (Zb t i) j):=fun i h j hj=>ihn _ (by have:=Jk h;have:=Jk hj;omega);have HM:exprB t=true→t.kind=28→CkM F t:=fun hx h=>Vad K h hx;have HE:exprB t=true→CkC F Qf t (ckT F t).ex:=fun hx=>Ypg H K (fun h=>Yrg K h hx) hx;have HS:blockB t=true→CkM' 1000001 F Jw t (ckT F t).sts:=fun hb=>Udf K hb;have HB:blockB t=true→CkC F Zza t (ckT F t).blk:=fun hb=>Ucf (HS hb);have HI:ifB t=true→CkC F Zta t (ckT F t).ifs:=fun hb=>Ybh K hb;have HT:stmtB t=true→CkC F Yha t (ckT F t).st:=fun hx=>Ysg K HB HI (fun h=>Zqf K2 h hx) hx;have HR:exprB t=true→CkR F t:=fun hx=>Yze H fun h=>HM hx h;have HL:exprB t=true→CkL F t:=fun hx=>Zpf H K (HE hx) hx;exact ⟨HE,HT,HB,HS,HI,HM,HR,HL⟩
set_option maxHeartbeats 2000000
def smP(t:Nd)(i:Nat)(k:Nd):Bool:=decide (k.text=(Zb t i).text)
theorem Jnd{l:List Nd}{k:Nat}(h:k<l.length)(p:Nd→Bool):(l.take (k+1)).any p=((l.take k).any p || p l[k]):=by
 rw [List.take_succ_eq_append_getElem h,List.any_append];simp
theorem Zuf{F t:Nd}(hf:∀ f∈t.kids,1≤f.kids.length){n0 b:Nat}{S:CSt}{w:World}{v:Value}(h:Chk F n0 b S w)(hkw:Kd w (fun k=>k<n0) t.kids v)(hc:count t≤1000000) :
 Ret PP Yjb #[.pointer (some ⟨b,0,none⟩),ndV t v] w fun r w'=>r = .tuple #[]∧Chk F n0 b (strA F t S t.kids.length) w'∧GT mutR n0 w w':=by
 obtain ⟨p,c,rfl,_⟩:=id hkw;have hlt:=h.lt;have hln:=Wz t;have g:=GT.refl mutR n0 w;refine WK 49 [0,1] Jua ?_;refine BM fun b3 _ ga _ g E=>?_;have h:=Ui h;refine AU ?_;have hnd1:=E.1;refine Xo (fun (i:Nat) u1=>(i≤t.kids.length∧Chk F n0 b (strA F t S i) u1)∧GT mutR n0 w u1) _ [(0,True,_),(3,True,_)] (fun (i:Nat)=>[(4,True,.int .i64 i)]) (fun (i:Nat)=>t.kids.length-i) (0) ⟨⟨Nat.zero_le _,h⟩,g⟩ (Zs (blkE E.g0) (Zz _)) (Za O (Za O (Za O (Zo _)))) ?_;clear E;rintro i u1 ⟨hI1,gl1⟩ ⟨B3,_⟩;replace B3:Blk _ _ _ _:=B3;have g:=gl1;obtain ⟨hi,h⟩:=hI1;have E:=Jo (L:=[(b3,_,_)]) hnd1 ⟨B3,trivial⟩ rfl;refine IF (fun h1=>?_) fun h1=>?_;replace h1:i<t.kids.length:=by simp only [decide_eq_true_eq] at h1;omega
 refine AU ?_;have hnd2:=E.1;refine Xo (fun (j:Nat) u2=>(j≤i∧Chk F n0 b (failU (!(t.kids.take j).any (smP t i)) (Zb t i).pos 6 (strA F t S i)) u2)∧GT mutR n0 w u2) _ [(0,True,_),(3,True,_),(4,True,_)] (fun (j:Nat)=>[(5,True,.int .i64 j)]) (fun (j:Nat)=>i-j) (0) ⟨⟨Nat.zero_le _,h⟩,g⟩ (Zs (blkE E.g0) (Zz _)) (Za O (Za O (Za O (Za O (Zo _))))) ?_;clear E;rintro j u2 ⟨hI2,gl2⟩ ⟨B3,_⟩;replace B3:Blk _ _ _ _:=B3;have g:=gl2;obtain ⟨hj,h⟩:=hI2;have hk0:=hkw.gt gl2 (fun k h=>h);obtain ⟨ei,pi,ci,hci,hki⟩:=Yl hk0 (i:=i) h1;have E:=Jo (L:=[(b3,_,_)]) hnd2 ⟨B3,trivial⟩ rfl;refine Zi (Zi (Zk (Zp O (Zp O (Xna O O (Ze (kq (Wn O (fun h2=>?_) (fun h2=>?_)))))))));replace h2:j<i:=by simp only [decide_eq_true_eq] at h2;omega
 obtain ⟨ej,pj,cj,hcj,hkj⟩:=Yl hk0 (i:=j) (by omega);have hst:=Jnd (show j<t.kids.length by omega) (smP t i);rw [← Wc] at hst;refine Yb (kq (Zi (Yo (Zi (Yx [3,0,3,3,3,0,3,0,3,3,3,0,3] [true,true,true,true,true,true,true,true,true,true,true,true,true] [0,1,0,7,15,31,0,64,0,448,960,1984,4095] mix (by kernel_rfl) ?_)))));have g:=gtd g;replace E:=E.dr;have h:=h.grow (G.drew _);have hk0:=hk0.grow (G.drew _);refine Yf Zg O (Yp Zf O (E.g0.at_ O) (Zp O (Ji Zc O O (by omega) ej (Yf Yn O (Yp Yg O ((hcj.grow (G.drew _)).one (i:=1) O) (Yf Zg O (Yp Zf O (E.g0.at_ O) (Zp O (Ji Zc O O (by omega) ei (Yf Yn O (Yp Yg O ((hci.grow (G.drew _)).one (i:=1) O) (Jvd O O (Ze (kq (Wn O (fun h3=>?_) (fun h3=>?_))))))))))))))));replace h3:smP t i (Zb t j)=true:=h3;obtain ⟨ei,pi,ci,hci,hki⟩:=Yl hk0 (i:=i) h1;refine Zk (Zp O (Yf Zg O (Yp Zf O (E.g0.at_ O) (Zp O (Ji Zc O O (by omega) ei (Yf Wma O (Yp Yh O (hci.one (i:=3) O) (CL (Wi (Zb t i).pos 6 h) ?_))))))));rintro _ _ ⟨rfl,h,ga⟩;refine RC fun g E=>?_;refine AU ?_;refine SK [5,0,3,4] ?_;refine Ze (fun a ha=>?_);exact ⟨j+1,ha,⟨⟨h2,by rw [hst,Vja (by decide),h3];exact h⟩,g⟩,(Zs (blkE E.g0) (Zz _)),by omega⟩;replace h3:smP t i (Zb t j)=false:=h3;refine Yb (kq (Zk (Zp O (Jta O O (by omega) (Yr O (Vf [(5,_,_),(0,_,_),(3,_,_),(4,_,_)] (Za O (Za O (Za O (Za O (Zo _))))) (Ze (fun a ha=>?_))))))));exact ⟨j+1,ha,⟨⟨h2,by rw [hst,Vja (by decide),h3];exact h⟩,g⟩,(Zs (blkE E.g0) (Zz _)),by omega⟩;replace h2:j=i:=by simp only [decide_eq_false_iff_not] at h2;omega
 subst h2;have hf1:=hf _ (List.getElem_mem h1);rw [← Wc h1] at hf1;obtain ⟨eg,pg,cg,hcg,hkg⟩:=Yl hki (i:=0) (by omega);refine Jl O (kq (Zk (Zp O (Yf Zg O (Yp Zf O (E.g0.at_ O) (Zp O (Ji Zc O O (by omega) ei (Yf Zg O (Yp Zf O (hci.one (i:=4) O) (Ji Zc O O (by omega) eg (Ve Zh O O hcg (CL (Jub (Zb (Zb t j) 0) _ _ h) ?_))))))))))));rintro _ _ ⟨rfl,h,ga⟩;refine RC fun g E=>?_;refine AU ?_;refine SK [4,0,3] ?_;refine Ze (fun a ha=>?_);exact ⟨j+1,ha,⟨⟨h1,h⟩,g⟩,(Zs (blkE E.g0) (Zz _)),by omega⟩;replace h1:i=t.kids.length:=by simp only [decide_eq_false_iff_not] at h1;omega
 subst h1;refine Jl O (Qn O ?_);exact ⟨rfl,h,g⟩
def Sc(S:CSt):Prop:=∀ v∈S.vars,v.scope≤S.scope
structure Vs (S T:CSt):Prop where
  vars:T.vars=S.vars
  scope:T.scope=S.scope
structure Vp (S T:CSt):Prop where
  vars:∃ l,T.vars=S.vars++l∧∀ v∈l,v.scope=S.scope
  scope:T.scope=S.scope
theorem Vs.refl(S:CSt):Vs S S:=⟨rfl,rfl⟩
theorem Vs.trans{S T U:CSt}(h:Vs S T)(k:Vs T U):Vs S U:=⟨k.vars.trans h.vars,k.scope.trans h.scope⟩
theorem Vs.sc{S T:CSt}(h:Vs S T)(k:Sc S):Sc T:=fun v hv=>by rw [h.scope];exact k v (h.vars▸hv)
theorem Vs.vp{S T:CSt}(h:Vs S T):Vp S T:=⟨⟨[],by rw [h.vars,List.append_nil],fun v hv=>by cases hv⟩,h.scope⟩
theorem Vp.sc{S T:CSt}(h:Vp S T)(k:Sc S):Sc T:=fun v hv=>by
 obtain ⟨l,h1,h2⟩:=h.vars;rw [h.scope];rcases List.mem_append.1 (h1▸hv) with q|q;exact k v q;exact Nat.le_of_eq (h2 v q)
theorem Vp.trans{S T U:CSt}(h:Vp S T)(k:Vp T U):Vp S U:=by
 obtain ⟨l,h1,h2⟩:=h.vars;obtain ⟨m,k1,k2⟩:=k.vars;refine ⟨⟨l++m,by rw [k1,h1,List.append_assoc],fun v hv=>?_⟩,k.scope.trans h.scope⟩;rcases List.mem_append.1 hv with q|q;exact h2 v q;rw [k2 v q,h.scope]
theorem Qfg(a e:Int)(S:CSt):Vs S (failS a e S):=⟨(Vpb a e S).1,(Vpb a e S).2.1⟩
theorem Xag(b:Bool)(a e:Int)(S:CSt):Vs S (failU b a e S):=⟨(Uua b a e S).1,(Uua b a e S).2.1⟩
theorem Vs.fail{S T:CSt}(h:Vs S T)(a e:Int):Vs S (failS a e T):=h.trans (Qfg a e T)
theorem Vs.failu{S T:CSt}(h:Vs S T)(b:Bool)(a e:Int):Vs S (failU b a e T):=h.trans (Xag b a e T)
theorem Vs.cond{S T U:CSt}{b:Bool}(h:Vs S T)(k:Vs S U):Vs S (bif b then T else U):=by cases b <;> assumption
theorem Zvf(F n:Nd)(S:CSt):Vs S (pointerS F n S):=((Vs.refl S).failu _ _ _).cond (Vs.refl S)
theorem Ute(F n:Nd)(S:CSt):Vs S (localS F n S):=(Zvf F n S).failu _ _ _
theorem Ujc(s:List UInt8)(y:Ty)(a:Int)(S:CSt):Vp S (declS s y a S) :=
 ⟨⟨[⟨s,y,declN S,S.level,S.scope⟩],rfl,fun v hv=>by rw [List.mem_singleton.1 hv]⟩,(Uua (!dupV S s) a 6 S).2.1⟩
theorem Ulf{sc:Nat}{vs l:List Vr}(h1:∀ v∈l,v.scope=sc)(h2:∀ v∈vs,v.scope<sc):dropV sc (vs++l)=vs:=by
 unfold dropV;rw [List.reverse_append]
 have e:∀ (a b:List Vr),(∀ v∈a,v.scope=sc)→(∀ v∈b,v.scope<sc)→(a++b).dropWhile (fun v=>decide (v.scope=sc))=b:=by
  intro a b ha hb
  induction a with
  | nil =>
   cases b with
   | nil=>rfl
   | cons x b=>rw [List.nil_append,List.dropWhile_cons_of_neg];have:=hb x List.mem_cons_self;simp;omega
  | cons x a ih=>rw [List.cons_append,List.dropWhile_cons_of_pos (by simp [ha x List.mem_cons_self])];exact ih fun v hv=>ha v (List.mem_cons_of_mem _ hv)
 rw [e l.reverse vs.reverse (fun v hv=>h1 v (List.mem_reverse.1 hv)) (fun v hv=>h2 v (List.mem_reverse.1 hv)),List.reverse_reverse]
theorem Uue{S T:CSt}(hs:Sc S)(h:Vp (openS S) T):Vs S (shutS T):=by
 obtain ⟨l,h1,h2⟩:=h.vars;have hsc:T.scope=S.scope+1:=h.scope;refine ⟨?_,by show T.scope-1=_;omega⟩;show dropV T.scope T.vars=S.vars;rw [h1,hsc];exact Ulf h2 fun v hv=>Nat.lt_succ_of_le (hs v hv)
theorem Ukc{S:CSt}(h:Sc S):Sc (openS S):=fun v hv=>Nat.le_succ_of_le (h v hv)
theorem Yjh{S T:CSt}(h:Vs (litS S) T):Vs S { T with level:=T.level-1,result:=S.result }:=⟨h.vars,h.scope⟩
structure CkV (c:Ck):Prop where
  ex:∀ S,Sc S→Vs S (c.ex S).2
  mem:∀ S,Sc S→Vs S (c.mem S).2
  cal:∀ S,Sc S→Vs S (c.cal S).2
  st:∀ S,Sc S→Vp S (c.st S).2
  blk:∀ S,Sc S→Vs S (c.blk S).2
  ifs:∀ S,Sc S→Vs S (c.ifs S).2
  sts:∀ S,Sc S→Vp S (c.sts S).2
  cas:∀ f S,Sc S→Vs S (c.cas f S).2
theorem Zah:CkV ck0:=⟨fun S _=>Vs.refl S,fun S _=>Vs.refl S,fun S _=>Vs.refl S,fun S _=>(Vs.refl S).vp,fun S _=>Vs.refl S,fun S _=>Vs.refl S,fun S _=>(Vs.refl S).vp,fun _ S _=>Vs.refl S⟩
section
variable {F t:Nd} {x:Nat→Ck}
theorem Vs.ex(X:∀ i,CkV (x i)){S T:CSt}(h:Vs S T)(hs:Sc S)(i:Nat):Vs S ((x i).ex T).2:=h.trans ((X i).ex T (h.sc hs))
theorem Vs.blk(X:∀ i,CkV (x i)){S T:CSt}(h:Vs S T)(hs:Sc S)(i:Nat):Vs S ((x i).blk T).2:=h.trans ((X i).blk T (h.sc hs))
theorem Xbg(X:∀ i,CkV (x i)){S:CSt}(hs:Sc S):Vs S (memR F t x S).2:=by
 have h:=Vs.ex X (Vs.refl S) hs 0;unfold memR;dsimp only;cases decide (((x 0).ex S).1.ty.kind=4);exact h.fail _ _;simp only [cond_true];split;exact h;exact h.fail _ _
theorem Xcg(X:∀ i,CkV (x i))(ps:List Ty){S T:CSt}(hs:Sc S)(h:Vs S T):∀ i,Vs S (argA t x ps T i).2
 | 0=>h
 | i+1=>(Vs.ex X (Xcg X ps hs h i) hs (i+1)).failu _ _ _
theorem Qgg(X:∀ i,CkV (x i)){S:CSt}(hs:Sc S):Vs S (callR t x S).2:=Xcg X _ hs (((X 0).cal S hs).failu _ _ _) _
theorem Qhg(X:∀ i,CkV (x i)){S:CSt}(hs:Sc S):Vs S (litR t x S).2:=Yjh ((X 0).blk (litS S) hs)
theorem vs_op(X:∀ i,CkV (x i)){S:CSt}(hs:Sc S):Vs S (opR t x S).2:=by
 have h:=Vs.ex X (Vs.refl S) hs 0;unfold opR;dsimp only [wantS];repeat' (first|(generalize decide (t.kind=_)=q;cases q <;> simp only [cond_true,cond_false]))
 all_goals first
  | exact (Vs.ex X (h.failu _ _ _) hs 1).failu _ _ _
  | exact (Vs.ex X h hs 1).failu _ _ _
  | exact h.failu _ _ _
  | exact h
theorem Xdg(X:∀ i,CkV (x i)){S:CSt}(hs:Sc S):Vs S (exR F t x S).2:=by
 unfold exR;cases decide (t.kind=24);case true=>exact Vs.refl S
 cases decide (t.kind=25);case true=>exact Vs.refl S
 cases decide (t.kind=26);case true=>exact Vs.refl S
 cases decide (t.kind=38);case true=>exact Qhg X hs
 cases decide (t.kind=30);case true=>exact Qgg X hs
 cases decide (t.kind=27);case true=>exact ((Vs.refl S).failu _ _ _).cond ((Vs.refl S).fail _ _)
 cases decide (t.kind=28);case true=>exact (Xbg X hs).failu _ _ _
 cases decide (t.kind=34);case true=>exact (Vs.refl S).failu _ _ _
 exact vs_op X hs
theorem Ykh(X:∀ i,CkV (x i)){S:CSt}(hs:Sc S):Vs S (calR F t x S).2:=by
 unfold calR;dsimp only;cases decide (t.kind=28)&&((x 0).rcv S).2;simp only [cond_false];cases decide (t.kind=27)&&((lookR F S t).2&&decide ((lookR F S t).1.ref=3));exact (Xdg X hs).failu _ _ _;exact Vs.refl S;refine Vs.failu ?_ _ _ _;unfold rcvX;cases decide ((Zb t 0).kind=28);exact Vs.refl S;exact (X 0).mem S hs
theorem Zwf(X:∀ i,CkV (x i)){S:CSt}(hs:Sc S):∀ i,Vp S (stA x S i).2
 | 0=>(Vs.refl S).vp
 | i+1=>(Zwf X hs i).trans ((X i).st _ ((Zwf X hs i).sc hs))
theorem Xeg(X:∀ i,CkV (x i)){S:CSt}(hs:Sc S):Vp S (stsR t x S).2:=Zwf X hs _
theorem Zxf(X:∀ i,CkV (x i)){S:CSt}(hs:Sc S):Vs S (blkR t x S).2:=Uue hs (Xeg X (Ukc hs))
theorem Xpf(X:∀ i,CkV (x i))(k:Nd){S:CSt}(hs:Sc S):Vs S (condR k (x 0) S).2:=by
 unfold condR;cases decide (k.kind=9);exact ((X 0).ex S hs).failu _ _ _;exact Vs.refl S
theorem Zbh(X:∀ i,CkV (x i)){S:CSt}(hs:Sc S):Vs S (ifR t x S).2:=by
 have h1:Vs S ((x 1).blk (condR (Zb t 0) (x 0) S).2).2:=Vs.blk X (Xpf X _ hs) hs 1;unfold ifR;dsimp only;cases decide ((Zb t 2).kind=10);cases decide ((Zb t 2).kind=18);exact h1;exact h1.trans ((X 2).ifs _ (h1.sc hs));exact h1.trans ((X 2).blk _ (h1.sc hs))
theorem Ylh(X:∀ i,CkV (x i)){S:CSt}(hs:Sc S):Vs S (asgR t x S).2:=(Vs.ex X ((Vs.ex X (Vs.refl S) hs 0).failu _ _ _) hs 1).failu _ _ _
theorem Xfg(X:∀ i,CkV (x i))(f:Bool){S:CSt}(hs:Sc S):Vs S (casR t x f S).2:=by
 have h:Vp (openS S) (bif decide ((Zb t 0).kind=9) then (clnT (Zb t 0),failU f t.pos 6 (openS S)) else (x 0).st (openS S)).2:=by
  cases decide ((Zb t 0).kind=9);exact (X 0).st _ (Ukc hs);exact ((Vs.refl _).failu _ _ _).vp
 exact Uue hs (h.trans ((X 1).sts _ (h.sc (Ukc hs))))
theorem Xde(X:∀ i,CkV (x i)){S:CSt}(hs:Sc S):∀ i,Vs S (selA t x S i).2.2
 | 0=>Vs.refl S
 | i+1=>(Xde X hs i).trans ((X i).cas _ _ ((Xde X hs i).sc hs))
theorem Ymh(X:∀ i,CkV (x i)){S:CSt}(hs:Sc S):Vp S (varR F t x S).2:=by
 unfold varR;dsimp only;cases decide ((Zb t 1).kind=9);exact ((Vs.ex X (Ute F _ S) hs 1).failu _ _ _).vp.trans (Ujc _ _ _ _);exact (Ute F _ S).vp.trans (Ujc _ _ _ _)
theorem Ynh(X:∀ i,CkV (x i)){S:CSt}(hs:Sc S):Vp S (defR t x S).2:=(((X 0).ex S hs).failu _ _ _).vp.trans (Ujc _ _ _ _)
theorem Yoh(X:∀ i,CkV (x i)){S:CSt}(hs:Sc S):Vs S (forR t x S).2:=Vs.blk X (Xpf X _ hs) hs 1
theorem Yph(X:∀ i,CkV (x i)){S:CSt}(hs:Sc S):Vs S (retR t x S).2:=by
 unfold retR;dsimp only;cases decide ((t.kids.length:Int)=1);exact (Vs.refl S).failu _ _ _;exact (Vs.ex X ((Vs.refl S).failu _ _ _) hs 0).failu _ _ _
theorem Yqh(X:∀ i,CkV (x i)){S:CSt}(hs:Sc S):Vp S (stR F t x S).2:=by
 unfold stR;dsimp only;cases decide (t.kind=10);case true=>exact (Zxf X hs).vp
 cases decide (t.kind=18);case true=>exact (Zbh X hs).vp
 cases decide (t.kind=12);case true=>exact (Ylh X hs).vp
 cases decide (t.kind=22);case true=>exact (Xde X hs _).vp
 cases decide (t.kind=6);case true=>exact Ymh X hs
 cases decide (t.kind=11);case true=>exact Ynh X hs
 cases decide (t.kind=19);case true=>exact (Yoh X hs).vp
 cases decide (t.kind=20);case true=>exact (Yph X hs).vp
 have h:=(X 0).ex S hs;simp only [cond_false,wantS];cases decide (t.kind=16);case true=>exact ((Vs.ex X (h.failu _ _ _) hs 1).failu _ _ _).vp
 cases decide (t.kind=17);case true=>exact (h.failu _ _ _).vp
 cases decide (t.kind=21);case true=>exact (h.failu _ _ _).vp
 exact h.vp
theorem ckv_f(X:∀ i,CkV (x i)):CkV (ckF F t x) :=
 ⟨fun S h=>Xdg X h,fun S h=>Xbg X h,fun S h=>Ykh X h,fun S h=>Yqh X h,fun S h=>Zxf X h,fun S h=>Zbh X h,fun S h=>Xeg X h,fun f S h=>Xfg X f h⟩
end
theorem ckv_t(F:Nd):∀ t,CkV (ckT F t):=by
 refine Nd.ind fun t ih=>?_;rw [Yxa];refine ckv_f fun i=>?_;by_cases h:i<t.kids.length;rw [Vv h,Wc h];exact ih _ (List.getElem_mem h);rw [ckX];simp only [List.getD_eq_getElem?_getD,List.getElem?_map];rw [List.getElem?_eq_none (by omega)];exact Zah
theorem ckv_x(F t:Nd)(i:Nat):CkV (ckX F t i):=by
 by_cases h:i<t.kids.length;rw [Vv h];exact ckv_t F _;rw [ckX];simp only [List.getD_eq_getElem?_getD,List.getElem?_map];rw [List.getElem?_eq_none (by omega)];exact Zah
abbrev Cst:=Bool×Int
@[reducible] def conV(c:Cst):Value:=.agg #[.bool c.1,.int .i64 c.2]
def zc:Cst×Bool:=((false,0),false)
def trC(b:Bool):Cst×Bool:=((true,bif b then 1 else 0),true)
def nmC(n:Int):Cst×Bool:=((false,n),true)
def binF(op:List UInt8)(x y:Cst):Cst×Bool :=
 bif decide (op=[61,61]) then trC (decide (x.2=y.2))
 else bif decide (op=[33,61]) then trC (!decide (x.2=y.2))
 else bif x.1 then
  bif decide (op=[38,38]) then trC (decide (x.2=1)&&decide (y.2=1))
  else bif decide (op=[124,124]) then trC (decide (x.2=1) || decide (y.2=1))
  else zc
 else bif decide (op=[43]) then nmC (IntKind.i64.wrap (x.2+y.2))
 else bif decide (op=[45]) then nmC (IntKind.i64.wrap (x.2-y.2))
 else bif decide (op=[42]) then nmC (IntKind.i64.wrap (x.2*y.2))
 else bif decide (op=[47]) then (bif !decide (y.2=0) then nmC (IntKind.i64.wrap (x.2.tdiv y.2)) else zc)
 else bif decide (op=[37]) then (bif !decide (y.2=0) then nmC (x.2.tmod y.2) else zc)
 else bif decide (op=[60]) then trC (decide (x.2<y.2))
 else bif decide (op=[60,61]) then trC (decide (x.2≤y.2))
 else bif decide (op=[62]) then trC (decide (y.2<x.2))
 else bif decide (op=[62,61]) then trC (decide (y.2≤x.2))
 else zc
def valF(t:Nd)(r:Nat→Cst×Bool):Cst×Bool :=
 bif decide (t.kind=24) then ((false,t.num),(decide (0≤t.num)&&plainB t)&&lenK t 0)
 else bif decide (t.kind=25) then ((true,t.num),((decide (t.num=0) || decide (t.num=1))&&plainB t)&&lenK t 0)
 else bif decide (t.kind=31)&&lenK t 1 then
  bif ((r 0).2&&decide (t.text=[45])) && !(r 0).1.1 then nmC (IntKind.i64.wrap (0-(r 0).1.2))
  else bif ((r 0).2&&decide (t.text=[33]))&&(r 0).1.1 then ((true,IntKind.i64.wrap (1-(r 0).1.2)),true)
  else zc
 else bif decide (t.kind=32)&&lenK t 2 then
  bif ((r 0).2&&(r 1).2)&&((r 0).1.1 == (r 1).1.1) then binF t.text (r 0).1 (r 1).1
  else zc
 else zc
def valC(t:Nd):Cst×Bool:=para (fun t l=>valF t fun i=>l.getD i zc) t
theorem getD_map'{α β:Type}(f:α→β)(l:List α)(i:Nat)(d:α):(l.map f).getD i (f d)=f (l.getD i d):=by
 simp only [List.getD_eq_getElem?_getD,List.getElem?_map];cases l[i]? <;> rfl
theorem Xgg:valC nd0=zc:=by rw [valC,Yaa];rfl
theorem Qig(t:Nd):valC t=valF t fun i=>valC (Zb t i):=by
 have h:∀ i,(t.kids.map (para (fun t l=>valF t fun i=>l.getD i zc))).getD i zc=valC (Zb t i):=fun i=>by
  have:=getD_map' valC t.kids i nd0;rw [Xgg] at this;exact this
 rw [valC,Yaa];exact congrArg (valF t) (funext h)
@[reducible] def retC(x:Cst×Bool):Value:=.tuple #[.int .i64 x.1.2,.bool x.1.1,.bool x.2]
def RetD(D:Nat→Prop)(t:Nd)(r:Value)(w:World):Prop:=∃ p c,r=ndV t (.slice p t.kids.length c)∧Kd w D t.kids (.slice p t.kids.length c)
theorem RetD.grow{D:Nat→Prop}{t:Nd}{r:Value}{w w':World}(h:RetD D t r w)(g:G w w'):RetD D t r w':=by
 obtain ⟨p,c,e,k⟩:=h;exact ⟨p,c,e,k.grow g⟩
theorem RetD.mono{D D':Nat→Prop}{t:Nd}{r:Value}{w:World}(h:RetD D t r w)(hD:∀ b,D b→D' b):RetD D' t r w:=by
 obtain ⟨p,c,e,k⟩:=h;exact ⟨p,c,e,k.mono fun b hb _=>hD b hb⟩
@[reducible] def GE(n:Nat):Nat→Prop:=fun b=>n≤b
theorem OwnK.low{e:TypeId}{D:Nat→Prop}{base:Nat}{w:World}{ks:List Nd}{s:Value}(h:OwnK e D base w ks s):OwnK e (fun b=>D b∧b<w.heap.size) base w ks s:=by
 have hlt:=h.lt;obtain ⟨xs,h1,h2,h3⟩:=h;exact ⟨xs,h1,h2.lt.mono fun b hb _=>⟨⟨hb.1.1,hb.2⟩,hb.1.2⟩,fun b hb=>⟨h3 b hb,hlt b hb⟩⟩
theorem OwnK.mono{e:TypeId}{D D':Nat→Prop}{base:Nat}{w:World}{ks:List Nd}{s:Value}(h:OwnK e D base w ks s)(hD:∀ b,D b→D' b):OwnK e D' base w ks s:=by
 obtain ⟨xs,h1,h2,h3⟩:=h;exact ⟨xs,h1,h2.mono fun b hb _=>⟨hD b hb.1,hb.2⟩,fun b hb=>hD b (h3 b hb)⟩
def unN(n pos:Int):Nd:=.mk 31 [45] 0 pos [.mk 24 [] n pos [] ty0 0 0] ty0 0 0
def replT(c:Cst)(pos:Int):Nd×Bool :=
 bif c.1 then (.mk 25 [] c.2 pos [] ty0 0 0,true)
 else bif decide (0≤c.2) then (.mk 24 [] c.2 pos [] ty0 0 0,true)
 else bif !decide (c.2 = -9223372036854775808) then (unN (IntKind.i64.wrap (0-c.2)) pos,true)
 else (nd0,false)
def foldF(t:Nd)(l:List Nd):Nd :=
 bif (valC t).2&&(replT (valC t).1 t.pos).2 then (replT (valC t).1 t.pos).1
 else bif decide (t.kind=18)&&(valC (Zb t 0)).2 then
  bif decide ((valC (Zb t 0)).1.2=1) then l.getD 1 nd0
  else bif decide ((Zb t 2).kind=9) then .mk 10 [] 0 t.pos [] ty0 0 0
  else l.getD 2 nd0
 else .mk t.kind t.text (bif decide (t.kind=24) || decide (t.kind=25) then t.num else 0) t.pos l ty0 0 0
def foldT(t:Nd):Nd:=para foldF t
theorem Vgd(t:Nd):foldT t=foldF t (t.kids.map foldT):=Yaa foldF t
theorem RetNd.mono{t:Nd}{b b':Nat}{v:Value}{w w':World}(h:RetNd t b v w)(hb:b'≤b)(g:G w w'):RetNd t b' v w':=by
 obtain ⟨p,c,rfl,hk⟩:=h;exact ⟨p,c,rfl,(hk.mono fun k hk _=>Nat.le_trans hb hk).grow g⟩
theorem Qjg{t:Nd}(h:t.kind=18)(hp:permF t=true):t.kids.length=3:=by
 rw [Jd,locB,Bool.and_eq_true,Bool.and_eq_true,Yua,h] at hp;have hf:kidsB t [expK,memK [10],memK [10,18,9]]=true:=hp.1.2;rw [kidsB,Bool.and_eq_true,decide_eq_true_eq] at hf;exact hf.1
theorem Jod{t:Nd}{i:Nat}(h:i<t.kids.length):(t.kids.map foldT).getD i nd0=foldT (Zb t i):=by
 rw [Wc h];simp [List.getD_eq_getElem?_getD,List.getElem?_eq_getElem h]
def valO(t:Nd):Option Cst:=bif (valC t).2 then some (valC t).1 else none
def oneO(t:Nd)(x:Option Cst):Option Cst:=match x with
 | some c=>bif decide (t.text=[45]) && !c.1 then some (false,IntKind.i64.wrap (0-c.2)) else bif decide (t.text=[33])&&c.1 then some (true,IntKind.i64.wrap (1-c.2)) else none
 | none=>none
def twoO(op:List UInt8)(x y:Option Cst):Option Cst:=match x,y with
 | some a,some b=>bif a.1 == b.1 then (bif (binF op a b).2 then some (binF op a b).1 else none) else none
 | _,_=>none
def oF(t:Nd)(r:Nat→Option Cst):Option Cst :=
 bif decide (t.kind=24) then (bif (decide (0≤t.num)&&plainB t)&&lenK t 0 then some (false,t.num) else none)
 else bif decide (t.kind=25) then (bif ((decide (t.num=0) || decide (t.num=1))&&plainB t)&&lenK t 0 then some (true,t.num) else none)
 else bif decide (t.kind=31)&&lenK t 1 then oneO t (r 0)
 else bif decide (t.kind=32)&&lenK t 2 then twoO t.text (r 0) (r 1)
 else none
theorem Qkg(t:Nd):valO t=oF t fun i=>valO (Zb t i):=by
 rw [valO,Qig,valF,oF]
 cases decide (t.kind=24) with
 | true=>rfl
 | false =>
 cases decide (t.kind=25) with
 | true=>rfl
 | false =>
 cases decide (t.kind=31)&&lenK t 1 with
 | true =>
  simp only [cond_true,cond_false,valO,oneO]
  cases (valC (Zb t 0)).2 with
  | false=>rfl
  | true =>
   simp only [Bool.true_and,cond_true];cases decide (t.text=[45]) <;> cases decide (t.text=[33]) <;> cases (valC (Zb t 0)).1.1 <;> rfl
 | false =>
 cases decide (t.kind=32)&&lenK t 2 with
 | true =>
  simp only [cond_true,cond_false,valO,twoO];cases (valC (Zb t 0)).2 <;> cases (valC (Zb t 1)).2 <;> first|rfl|skip
  simp only [Bool.true_and,cond_true];cases (valC (Zb t 0)).1.1 == (valC (Zb t 1)).1.1 <;> rfl
 | false=>rfl
theorem valO_iff{t:Nd}{c:Cst}:valO t=some c↔(valC t).2=true∧(valC t).1=c:=by
 rw [valO];cases (valC t).2 <;> simp
theorem Umf{t:Nd}{c:Cst}(h:valO t=some c):t.kind=24∨t.kind=25∨(t.kind=31∧t.kids.length=1)∨(t.kind=32∧t.kids.length=2):=by
 rw [Qkg,oF] at h;by_cases h1:t.kind=24;exact .inl h1;by_cases h2:t.kind=25;exact .inr (.inl h2);rw [Wdh h1,Wdh h2] at h
 cases h3:decide (t.kind=31)&&lenK t 1 with
 | true =>
  rw [Bool.and_eq_true,decide_eq_true_eq] at h3;exact .inr (.inr (.inl ⟨h3.1,by (have hz:=h3.2;first|(unfold lenK at hz;simp at hz;omega)|(simp at hz;omega))⟩))
 | false =>
  cases h4:decide (t.kind=32)&&lenK t 2 with
  | true =>
   rw [Bool.and_eq_true,decide_eq_true_eq] at h4;exact .inr (.inr (.inr ⟨h4.1,by (have hz:=h4.2;first|(unfold lenK at hz;simp at hz;omega)|(simp at hz;omega))⟩))
  | false=>rw [h3,h4] at h;cases h
/-! replaced constants -/
/-! folded trees, case by case -/
def rebT(t:Nd):Nd:=.mk t.kind t.text (bif decide (t.kind=24) || decide (t.kind=25) then t.num else 0) t.pos (t.kids.map foldT) ty0 0 0
def blP(pos:Int):Nd:=.mk 10 [] 0 pos [] ty0 0 0
theorem Zyf{t:Nd}(hp:permF t=true) :
 (∃ c,valO t=some c∧(replT c t.pos).2=true∧foldT t=(replT c t.pos).1)∨
 (t.kind=18∧t.kids.length=3∧valO (Zb t 0)≠none∧(foldT t=foldT (Zb t 1)∨((Zb t 2).kind=9∧foldT t=blP t.pos)∨((Zb t 2).kind≠9∧foldT t=foldT (Zb t 2))))∨
 ((∀ c,valO t=some c→(replT c t.pos).2=false)∧(t.kind=18→valO (Zb t 0)=none)∧foldT t=rebT t):=by
 cases h1:(valC t).2&&(replT (valC t).1 t.pos).2 with
 | true =>
  rw [Bool.and_eq_true] at h1;exact .inl ⟨(valC t).1,valO_iff.2 ⟨h1.1,rfl⟩,h1.2,by rw [Vgd,foldF,h1.1,h1.2];rfl⟩
 | false =>
  have hn:∀ c,valO t=some c→(replT c t.pos).2=false:=fun c hc=>by
   obtain ⟨e1,e2⟩:=valO_iff.1 hc;rw [← e2];rw [e1] at h1;exact h1
  cases h2:decide (t.kind=18)&&(valC (Zb t 0)).2 with
  | true =>
   have h2':=h2;rw [Bool.and_eq_true,decide_eq_true_eq] at h2';have hl:=Qjg h2'.1 hp;refine .inr (.inl ⟨h2'.1,hl,by rw [valO,h2'.2];exact Option.some_ne_none _,?_⟩);rw [Vgd t,foldF,h1,h2];simp only [cond_true,cond_false];rw [Jod (show 1<t.kids.length by omega),Jod (show 2<t.kids.length by omega)]
   cases decide ((valC (Zb t 0)).1.2=1) with
   | true=>exact .inl rfl
   | false =>
    simp only [cond_false];by_cases h9:(Zb t 2).kind=9;rw [Weh h9];exact .inr (.inl ⟨h9,rfl⟩);rw [Wdh h9];exact .inr (.inr ⟨h9,rfl⟩)
  | false =>
   refine .inr (.inr ⟨hn,fun h=>?_,by rw [Vgd,foldF,h1,h2];rfl⟩);rw [Weh h,Bool.true_and] at h2;rw [valO,h2];rfl
theorem Unf{t:Nd}(h1:t.kind≠24)(h2:t.kind≠25)(h3:t.kind≠31)(h4:t.kind≠32):valO t=none:=by
 cases h:valO t with
 | none=>rfl
 | some c=>rcases Umf h with e|e|e|e <;> first|exact absurd e (by assumption)|exact absurd e.1 (by assumption)
theorem Xhg{t:Nd}(hp:permF t=true)(h1:valO t=none)(h2:t.kind≠18):foldT t=rebT t:=by
 rcases Zyf hp with ⟨c,h,_⟩|⟨h,_⟩|⟨_,_,e⟩;rw [h1] at h;cases h;exact absurd h h2;exact e
/-! errors -/
theorem Xig{a e:Int}{S:CSt}(he:e≠0):(failS a e S).ee≠0:=by
 unfold failS;by_cases h:S.ee=0;rw [Weh h];exact he;rw [Wdh h];exact h
theorem fu{b:Bool}{a e:Int}{S:CSt}(h:(failU b a e S).ee=0)(he:e≠0:=by decide):b=true∧S.ee=0:=by
 cases b;exact absurd h (Xig he);exact ⟨rfl,h⟩
/-! states that are alike but for numbers -/
def vk(v:Vr):List UInt8×Ty×Nat×Nat:=(v.name,v.typ,v.level,v.scope)
structure Sim (S T:CSt):Prop where
  vars:T.vars.map vk=S.vars.map vk
  scope:T.scope=S.scope
  level:T.level=S.level
  result:T.result=S.result
  es:S.ee=0
  et:T.ee=0
  sc:Sc S
theorem Jpd(sc:Nat)(l:List Vr):(dropV sc l).map vk=((l.map vk).reverse.dropWhile fun k=>decide (k.2.2.2=sc)).reverse:=by
 unfold dropV;rw [List.map_reverse,← List.map_reverse (l:=l),List.dropWhile_map];rfl
theorem Uve(S:CSt)(s:List UInt8):dupV S s=(S.vars.map vk).any fun k=>decide (k.2.2.2=S.scope)&&decide (k.1=s):=by
 rw [dupV,List.any_map];rfl
theorem Sim.open{S T:CSt}(h:Sim S T):Sim (openS S) (openS T):=⟨h.vars,congrArg (· + 1) h.scope,h.level,h.result,h.es,h.et,Ukc h.sc⟩
theorem Sim.shut{S T:CSt}(h:Sim S T)(hs:Sc (shutS S)):Sim (shutS S) (shutS T) :=
 ⟨by show (dropV _ _).map vk=(dropV _ _).map vk;rw [Jpd,Jpd,h.vars,h.scope],congrArg (· - 1) h.scope,h.level,h.result,h.es,h.et,hs⟩
theorem Sim.lit{S T:CSt}(h:Sim S T):Sim (litS S) (litS T):=⟨h.vars,h.scope,congrArg (· + 1) h.level,rfl,h.es,h.et,h.sc⟩
theorem Sim.failu{S T:CSt}{b b':Bool}{a a' e e':Int}(h:S.ee=0→Sim S T)(hb:b=true→b'=true)(hz:(failU b a e S).ee=0)(he:e≠0:=by decide):Sim (failU b a e S) (failU b' a' e' T):=by
 obtain ⟨h1,h2⟩:=fu hz he;rw [h1,hb h1];exact h h2
theorem Sim.dup{S T:CSt}(h:Sim S T)(s:List UInt8):dupV T s=dupV S s:=by rw [Uve,Uve,h.vars,h.scope]
theorem Sim.decl{S T:CSt}(h:S.ee=0→Sim S T)(s:List UInt8)(y:Ty)(a a':Int)(hz:(declS s y a S).ee=0):Sim (declS s y a S) (declS s y a' T):=by
 obtain ⟨h1,h2⟩:=fu (b:=!dupV S s) (a:=a) (e:=6) (S:=S) hz;have h:=h h2;have h3:(!dupV T s)=true:=by rw [h.dup];exact h1
 have hs:=(Ujc s y a S).sc h.sc;unfold declS at hs ⊢;rw [h1] at hs ⊢;rw [h3];refine ⟨?_,h.scope,h.level,h.result,h.es,h.et,hs⟩;show (T.vars++[_]).map vk=(S.vars++[_]).map vk;rw [List.map_append,List.map_append,h.vars];show _++[(s,y,T.level,T.scope)]=_++[(s,y,S.level,S.scope)];rw [h.level,h.scope]
theorem Sim.frame{S T U V:CSt}{d d':Nat}(h:Sim S T)(h1:Vs S U)(h2:Stp d S U)(h3:U.ee=0)(k1:Vs T V)(k2:Stp d' T V)(k3:V.ee=0):Sim U V :=
 ⟨by rw [k1.vars,h1.vars,h.vars],by rw [k1.scope,h1.scope,h.scope],by rw [k2.level,h2.level,h.level],by rw [k2.result,h2.result,h.result],h3,k3,h1.sc h.sc⟩
/-! nodes that are alike -/
structure XR (x y:Nd):Prop where
  ty:y.ty=x.ty
  ref:y.ref=x.ref
  kd:y.kind=x.kind∨(x.kind≠27∧x.kind≠28∧x.kind≠29)
def SEx(c c':Ck):Prop:=∀ S T,Sim S T→(c.ex S).2.ee=0→Sim (c.ex S).2 (c'.ex T).2∧XR (c.ex S).1 (c'.ex T).1
def SMem(c c':Ck):Prop:=∀ S T,Sim S T→(c.mem S).2.ee=0→Sim (c.mem S).2 (c'.mem T).2∧(c'.mem T).1.2=(c.mem S).1.2∧(c'.mem T).1.1.ty=(c.mem S).1.1.ty
def SRcv(c c':Ck):Prop:=∀ S T,Sim S T→((c.rcv S).2=true→(c'.rcv T).2=true∧(c'.rcv T).1.ty=(c.rcv S).1.ty)∧((c.rcv S).2=false→(c.ex S).2.ee=0→(c'.rcv T).2=false)
def SCal(c c':Ck):Prop:=∀ S T,Sim S T→(c.cal S).2.ee=0→Sim (c.cal S).2 (c'.cal T).2∧(c'.cal T).1.2=(c.cal S).1.2
def SSt(c c':Ck):Prop:=∀ S T,Sim S T→(c.st S).2.ee=0→Sim (c.st S).2 (c'.st T).2
def SSts(c c':Ck):Prop:=∀ S T,Sim S T→(c.sts S).2.ee=0→Sim (c.sts S).2 (c'.sts T).2
def SCas(c c':Ck):Prop:=∀ f S T,Sim S T→(c.cas f S).2.ee=0→Sim (c.cas f S).2 (c'.cas f T).2
def elsR(k:Int)(c:Ck)(S:CSt):CSt:=bif decide (k=10) then (c.blk S).2 else bif decide (k=18) then (c.ifs S).2 else S
def SEls(k k':Int)(c c':Ck):Prop:=∀ S T,Sim S T→(elsR k c S).ee=0→Sim (elsR k c S) (elsR k' c' T)
structure FR (k k':Int) (c c':Ck):Prop where
  ex:expK k=true→SEx c c'
  mem:k=28→SMem c c'
  rcv:expK k=true→SRcv c c'
  cal:expK k=true→SCal c c'
  st:stK k=true→SSt c c'
  sts:k=10→SSts c c'
  cas:k=23→SCas c c'
  els:k=10∨k=18∨k=9→SEls k k' c c'
/-! declarations of the folded file -/
structure FOk (F:Nd):Prop where
  kind:F.kind=1
  perm:permF F=true
  ok:okNd F
theorem FOk.reb{F:Nd}(H:FOk F):foldT F=rebT F:=Xhg H.perm (Unf (by rw [H.kind];decide) (by rw [H.kind];decide) (by rw [H.kind];decide) (by rw [H.kind];decide)) (by rw [H.kind];decide)
theorem FOk.kids{F:Nd}(H:FOk F):(foldT F).kids=F.kids.map foldT:=by rw [H.reb];rfl
/-! shapes of declarations -/
theorem Uva{t:Nd}(hp:permF t=true):(Yua t&&t.kids.all permF)=true:=by
 rw [Jd,locB,Bool.and_eq_true,Bool.and_eq_true] at hp;exact Bool.and_eq_true_iff.2 ⟨hp.1.2,hp.2⟩
theorem Xee{t:Nd}(h:typK t.kind=true)(hp:permF t=true):isTypeB t=true:=by rw [Vnb,h,hp];rfl
theorem Qlg{t:Nd}(h:t.kind=9)(hp:permF t=true):noneB t=true:=by rw [Zjb,Weh h,hp];rfl
theorem pf4{t:Nd}(h:t.kind=4)(hp:permF t=true):t.kids.length=3∧((Zb t 0).kind=5∧permF (Zb t 0)=true)∧(isTypeB (Zb t 1)=true∨noneB (Zb t 1)=true)∧((Zb t 2).kind=10∧permF (Zb t 2)=true):=by
 have hf:=Uva hp;rw [Yua,h] at hf;have hf:(kidsB t [memK [5],fun k=>typK k || memK [9] k,memK [10]]&&t.kids.all permF)=true:=hf;rw [Zaf] at hf;simp only [Bool.and_eq_true,Zra,decide_eq_true_eq,Bool.or_eq_true] at hf;refine ⟨by have:=hf.1;(have hz:=this;first|(unfold lenK at hz;simp at hz;omega)|(simp at hz;omega)),hf.2.1.1,?_,hf.2.2⟩;rcases hf.2.1.2.1 with q|q;exact .inl (Xee q hf.2.1.2.2);exact .inr (Qlg q hf.2.1.2.2)
theorem pf6{t:Nd}(h:t.kind=6)(hp:permF t=true):t.kids.length=2∧isTypeB (Zb t 0)=true∧permF (Zb t 1)=true:=by
 have hf:=Uva hp;rw [Yua,h] at hf;have hf:(kidsB t [typK,fun k=>expK k || memK [9] k]&&t.kids.all permF)=true:=hf;rw [Yje] at hf;simp only [Bool.and_eq_true] at hf;exact ⟨by have:=hf.1;(have hz:=this;first|(unfold lenK at hz;simp at hz;omega)|(simp at hz;omega)),Xee hf.2.1.1 hf.2.1.2,hf.2.2.2⟩
theorem pf3{t:Nd}(h:t.kind=3)(hp:permF t=true):t.kids.length=1∧isTypeB (Zb t 0)=true:=by
 have hf:=Uva hp;rw [Yua,h] at hf;have hf:(kidsB t [typK]&&t.kids.all permF)=true:=hf;rw [Jze] at hf;simp only [Bool.and_eq_true] at hf;exact ⟨by have:=hf.1;(have hz:=this;first|(unfold lenK at hz;simp at hz;omega)|(simp at hz;omega)),Xee hf.2.1 hf.2.2⟩
theorem Wcb{t:Nd}(h:t.kind=2∨t.kind=5)(hp:permF t=true):∀ f∈t.kids,f.kind=3∧permF f=true:=by
 have hf:=Uva hp;have hf:(everyB t (memK [3])&&t.kids.all permF)=true:=by rcases h with h|h <;> (rw [Yua,h] at hf;exact hf)
 rw [Bool.and_eq_true,everyB,List.all_eq_true,List.all_eq_true] at hf;intro f hm;have:=hf.1 f hm;rw [Zra,decide_eq_true_eq] at this;exact ⟨this,hf.2 f hm⟩
/-! what the declarations tell -/
section
variable {F t:Nd} {x:Nat→Ck} (S:CSt)
end
theorem FR.blk{k k':Int}{c c':Ck}(h:FR k k' c c')(hk:k=10)(hk':k'=10):∀ S T,Sim S T→(c.blk S).2.ee=0→Sim (c.blk S).2 (c'.blk T).2:=by
 subst hk hk';exact h.els (.inl rfl)
theorem Sim.want{S T:CSt}{a b:Nd}{k p p':Int}(h:S.ee=0→Sim S T)(hy:b.ty=a.ty)(hz:(wantS a k p S).ee=0):Sim (wantS a k p S) (wantS b k p' T):=by
 unfold wantS at hz ⊢;exact Sim.failu h (by rw [hy];exact id) hz
/-! constants -/
section
variable {F t:Nd} {x x':Nat→Ck}
/-! statements -/
end
/-! statements that end -/
theorem Yrh{t:Nd}(h:t.kind=10):(endT t).1=(endT t).2:=by rw [Zmc];unfold endP;rw [h];rfl
theorem Xjg(t:Nd)(i:Nat)(h:i<t.kids.length):(t.kids.map endT).getD i (false,false)=endT (Zb t i):=by
 rw [Wc h];simp [List.getD_eq_getElem?_getD,List.getElem?_eq_getElem h]
theorem Xkg{l:List Nd}(hl:l≠[]):((l.map endT).getLast?.getD (false,false))=endT (l.getLast hl):=by
 rw [List.getLast?_map,List.getLast?_eq_some_getLast hl];rfl
theorem Ysh{t:Nd}(h:t.kind=18)(hl:t.kids.length=3):(endT t).1=((endT (Zb t 1)).2&&((decide ((Zb t 2).kind=10)&&(endT (Zb t 2)).2) || (decide ((Zb t 2).kind=18)&&(endT (Zb t 2)).1))):=by
 rw [Zmc];unfold endP;rw [h];show (((t.kids.map endT).getD 1 (false,false)).2&&((decide ((Zb t 2).kind=10)&&((t.kids.map endT).getD 2 (false,false)).2) || (decide ((Zb t 2).kind=18)&&((t.kids.map endT).getD 2 (false,false)).1)))=_;rw [Xjg t 1 (by omega),Xjg t 2 (by omega)]
/-! names -/
section
variable {F:Nd}
end
set_option maxHeartbeats 2000000
def lT(l:List Nd):Nd:=.mk 0 [] 0 0 l ty0 0 0
theorem Uof{l:List Nd}(h:0<l.length):endsL l=(endT (Zb (lT l) (l.length-1))).1∧Zb (lT l) (l.length-1)∈l:=by
 have hl:l≠[]:=by intro e;subst e;simp at h
 have e:Zb (lT l) (l.length-1)=l.getLast hl:=by
  rw [Wc (show l.length-1<(lT l).kids.length from (by show _<l.length;omega)),List.getLast_eq_getElem];rfl
 rw [e];exact ⟨by unfold endsL;rw [Xkg hl],List.getLast_mem hl⟩
theorem Qbd{l:List Nd}{t:Nd}(h:t∈l):count t≤(l.map count).sum:=by
 have h1:=Jp (t:=lT l) (k:=t) h;rw [Uw (lT l)] at h1;have:(lT l).kids=l:=rfl;rw [this] at h1;omega
theorem Jwb(t:Nd):(t.kids.map count).sum<count t:=by rw [Uw t];omega
theorem Xlg(t:Nd):endsL [t]=(endT t).1:=rfl
theorem Xmg{k:Nd}(h:blockB k=true∨ifB k=true∨noneB k=true)(e:k.kind=10):blockB k=true :=
 h.elim id fun h=>h.elim (fun h=>absurd (of_decide_eq_true (Bool.and_eq_true_iff.1 h).1) (by omega)) fun h=>absurd (Wba h).1 (by omega)
theorem Xng{k:Nd}(h:blockB k=true∨ifB k=true∨noneB k=true)(e:k.kind=18):stmtB k=true:=by
 have h1:ifB k=true:=h.elim (fun h=>absurd (Zmb h) (by omega)) fun h=>h.elim id fun h=>absurd (Wba h).1 (by omega);have h1:=Bool.and_eq_true_iff.1 h1;have h2:=of_decide_eq_true h1.1;unfold stmtB;rw [h2,h1.2];decide
theorem Uwe(n:Nat):∀ (l:List Nd) (v:Value) (D:Nat→Prop) (w:World),Kd w D l v→l.all stmtB=true→(l.map count).sum<n→n≤1000001→Ret PP Wje #[v] w fun r w'=>r = .bool (endsL l)∧G w w':=by
 induction n with
 | zero=>intro l v D w _ _ h _;omega
 | succ n ih =>
 intro l v D w hk0 hl hc hn;obtain ⟨p,c,rfl,_⟩:=id hk0
 have hln:l.length≤1000000:=by
  have:=Wz (lT l);rw [Uw (lT l)] at this;have h2:(lT l).kids=l:=rfl;rw [h2] at this;omega
 have g:=G.refl w;refine WK 63 [0] Ujd ?_;refine IF (fun h1=>?_) fun h1=>?_;replace h1:l=[]:=List.eq_nil_of_length_eq_zero (by have:=of_decide_eq_true h1;omega);subst h1;refine Zi (Zk (Yr O (Ze (kq (Xe (Up O O ?_))))));exact ⟨rfl,g⟩;replace h1:0<l.length:=by have:=of_decide_eq_false h1;omega
 obtain ⟨t,et⟩:∃ t,t=Zb (lT l) (l.length-1):=⟨_,rfl⟩;obtain ⟨e0,pt,ct,hcell,hkid⟩:=Yl (t:=lT l) hk0 (i:=l.length-1) (by show _<l.length;omega);rw [← et] at hcell hkid;obtain ⟨eE,hm⟩:=Uof h1;rw [← et] at eE hm;have ht:=List.all_eq_true.1 hl _ hm;have hct:=Qbd hm;have eN:((l.length:Int)-1).toNat=l.length-1:=by omega
 refine Yb (kq (Zi (Zk (Zp O (Zp O (Xha Zc O (Zq O (fun _=>Yfb (Zd O) Xg (fun _=>by omega)) (Ji Zc O O (by omega) e0 (Ve Zh O O (by rw [eN];exact hcell.grow g) (AM fun _ _ _ _ g E=>?_))))))))));refine AS fun _ _ _ g E=>?_;refine IF (fun h2=>?_) fun h2=>?_;replace h2:t.kind=20:=of_decide_eq_true h2;refine RTN ?_;exact ⟨by rw [eE,Zmc];unfold endP;rw [h2];rfl,g⟩;replace h2:t.kind≠20:=of_decide_eq_false h2;refine Zi (Zk (Zya O O (Yr O (Ze (kq (Wn O (fun h3=>?_) (fun h3=>?_)))))));replace h3:t.kind=19:=of_decide_eq_true h3;have hl2:=(sh19 h3 ht).1;obtain ⟨e1,p1,c1,hc1,hk1⟩:=Yl hkid (i:=0) (by omega);refine Zi (Zk (Yf Zg O (Yp Zf O (E.g0.at_ O) (Ji Zc O O (by omega) e1 (Yf Xl O (Yp Yh O ((hc1.grow g).one (i:=0) O) (Zya O O (Yr O (Ze (kq (Xe (Up O O ?_))))))))))));exact ⟨by rw [eE,Zmc];unfold endP;rw [h3];rfl,g⟩;replace h3:t.kind≠19:=of_decide_eq_false h3;refine IF (fun h4=>?_) fun h4=>?_;replace h4:t.kind=10:=of_decide_eq_true h4;refine AU ?_;refine CP (ih _ _ D _ (hkid.grow g) (sh10 (sh10s h4 ht)) (by have:=Jwb t;omega) (by omega)) (fun w30 g30=>?_);have g:=g.trans g30;replace E:=E.grow g30;refine Yr O (Ze (kq (Xe (Up O O ?_))));exact ⟨by rw [eE,Yrh h4,Zdf],g⟩;replace h4:t.kind≠10:=of_decide_eq_false h4;refine Zi (Zk (Zya O O (Yr O (Ze (kq (Wn O (fun h5=>?_) (fun h5=>?_)))))));replace h5:t.kind=18:=of_decide_eq_true h5;obtain ⟨hl3,_,hb1,hb2⟩:=sh18 (sh18s h5 ht);have hc3:=cn3 hl3;obtain ⟨e1,p1,c1,hc1,hk1⟩:=Yl hkid (i:=1) (by omega);obtain ⟨e2,p2,c2,hc2,hk2⟩:=Yl hkid (i:=2) (by omega);refine Zi (Zk (Yf Zg O (Yp Zf O (E.g0.at_ O) (Ji Zc O O (by omega) e2 (Ve Zh O O (hc2.grow g) (AN fun _ _ _ _ g E=>?_))))));refine AS fun _ _ _ g E=>?_
 refine Ze (kq (Zi (Zk (Yf Zg O (Yp Zf O (E.g1.at_ O) (Ji Zc O O (by omega) e1 (Yf Zg O (Yp Zf O ((hc1.grow g).one (i:=4) O) (Vg O (Yi Qob Vc (aqc O aq0) O) (ih _ _ D _ (hk1.grow g) (sh10 hb1) (by have:=Jwb (Zb t 1);omega) (by omega)) (fun w42 g42=>?_))))))))));have g:=g.trans g42;replace E:=E.grow g42;refine AU ?_;refine CG (fun hc=>ih _ _ D _ (hk2.grow g) (sh10 (Xmg hb2 (of_decide_eq_true hc.2))) (by have:=Jwb (Zb t 2);omega) (by omega)) (fun w50 g50=>?_);have g:=g.trans g50;replace E:=E.grow g50;refine AU ?_;refine Wjd [_,_,_,_,_,_,_,_,_] O O O Zc Zt (Xn (Zm O id) (Vk)) O O ?_;intro b58 w58 g58 hB58;have g:=g.trans g58;replace E:=E.grow g58;refine CG (fun hc=>ih [Zb t 2] _ (fun _=>True) _ (Xm (ks:=[Zb t 2]) trivial (hB58 hc).row (Yc ((hk2.grow g).mono fun _ _ _=>trivial)) (Nat.le_refl _)) (by simp [Xng hb2 (of_decide_eq_true hc.2)]) (by show count (Zb t 2)+0<n;have:=Uo (Zb t 1);omega) (by omega)) (fun w59 g59=>?_);have g:=g.trans g59;replace E:=E.grow g59;refine RTN ?_;exact ⟨by rw [eE,Ysh h5 hl3,Zdf,Zdf,Xlg],g⟩;replace h5:t.kind≠18:=of_decide_eq_false h5;refine RTN ?_;exact ⟨by rw [eE,Zmc];unfold endP;rw [Wdh h2,Wdh h3,Wdh h4,Wdh h5];rfl,g⟩
set_option maxHeartbeats 4000000
theorem Uxe(F p:Nd)(S:CSt):∀ i,(parA F p S i).1.length=i
 | 0=>rfl
 | i+1=>by
  show ((parA F p S i).1++[_]).length=_;rw [List.length_append,Uxe F p S i];rfl
theorem Uye(F p:Nd)(S:CSt):∀ i,Stp i S (parA F p S i).2
 | 0=>Stp.refl S
 | i+1=>((Uye F p S i).trans (Ubc _ _ _ _)).trans (Wab _ _ _)
theorem Qmg(S:CSt):Bd (funS0 S) 0:=⟨Nat.le_refl _,Nat.le_refl _,fun k hk=>by
 have:k∈[0]:=hk;simp at this;omega,by show (0:Nat)<1;decide,Nat.le_refl _,fun v hv=>by cases hv⟩
theorem Xog{S:CSt}{N:Nat}(h:Bd S N)(y:Ty):Bd { S with result:=y } N:=⟨h.vl,h.nl,h.nx,h.lv,h.sc,h.vs⟩
theorem Xpg(F p:Nd)(S:CSt)(i:Nat):Bd (parA F p (funS0 S) i).2 i:=by
 have:=(Uye F p (funS0 S) i).bd _ (Qmg S);rwa [Nat.zero_add] at this
theorem Qng(F n:Nd)(S:CSt):Bd (funS2 F n S) (Zb n 0).kids.length:=by
 have h1:Bd (funS1 F n S) (Zb n 0).kids.length:=Xog (Xpg F _ S _) _;unfold funS2;cases decide ((Zb n 1).kind=9);exact Xog ((Wab F (Zb n 1) (funS1 F n S)).bd _ h1) _;exact h1
theorem Qog{F t:Nd}(H:FSh F)(hk4:t.kind=4)(hp:permF t=true){n0 b:Nat}{S:CSt}{w:World}{v:Value}(h:Chk F n0 b S w)(hkw:Kd w (fun k=>k<n0) t.kids v)(hcn:count t≤1000000) :
 Ret PP Vea #[.pointer (some ⟨b,0,none⟩),ndV t v] w fun r w'=>RetN (funR F t S).1 w.heap.size r w'∧Chk F n0 b (funR F t S).2 w'∧GT mutR n0 w w':=by
 obtain ⟨p,c,rfl,_⟩:=id hkw;obtain ⟨hl,⟨hk5,hp5⟩,ht1,hk10,hp10⟩:=pf4 hk4 hp;have hc3:=cn3 hl;have hb2:blockB (Zb t 2)=true:=by unfold blockB;rw [hk10,hp10];rfl
 have hk0:=hkw;have hlt:=h.lt;have hlq:=Wz (Zb t 0);have hs2:CkM' 1000001 F Jw (Zb t 2) (ckT F (Zb t 2)).sts:=(Yzg H _ _ (Nat.le_refl _)).sts hb2;have hbd2:=Qng F t S;obtain ⟨fv,sv,sn,h⟩:=h;have g:=GT.refl mutR n0 w;refine WK 136 [0,1] Znb ?_;refine BM fun b3 _ ga _ g E=>?_;have h:=Ui h;have hk0:=Ui hk0;refine AN fun b4 _ ga _ g E=>?_;have h:=Ui h;have hk0:=Ui hk0;refine AU ?_;refine CL (Vq t _ _ _) ?_;rintro _ _ ⟨rfl,ga⟩;refine RC fun g E=>?_;have h:=Uk h;have hk0:=Uk hk0;refine AN fun b5 _ ga _ g E=>?_;have h:=Ui h;have hk0:=Ui hk0;refine AS fun _ ga Ca g E=>?_;have h:=Ub h;have hk0:=Ud hk0;refine AU ?_;refine Wp _ O Xfa Xtd (pqc O pq0) O O ?_;intro b19 w19 N19;have l19:=Yea N19 g.size;have B19:=N19.blk;have g:=gtg g N19.g;replace E:=E.grow N19.g;have h:=h.grow (N19.g);have hk0:=hk0.grow (N19.g);refine AU ?_;refine Xi O Vo (Zd O) Xg O O h.B O O ?_;intro wA hgA hzA BA;replace E:=E.keepT hgA (h.B) rfl;have g:=Wu g hgA h.B rfl h.hb;have hk0:=hk0.keep hgA (fun k hk _ e=>by injection e with e;have:=h.hb;omega);have B19:=B19.keep hgA (by intro e;injection e with e;exact Yve B19 h.B rfl e);have h:=h.setv (S':={ S with vars:=[] }) (Wgc _ _) (show World.ownsRow _ n0 Xq 6 (.slice none 0 0) 0 [] from ⟨rfl,.inl ⟨rfl,rfl⟩⟩) hgA BA rfl;refine AU ?_;refine Xi O Va (Zd O) Xg O O h.B O O ?_;intro wB hgB hzB BB;replace E:=E.keepT hgB (h.B) rfl;have g:=Wu g hgB h.B rfl h.hb;have hk0:=hk0.keep hgB (fun k hk _ e=>by injection e with e;have:=h.hb;omega);have B19:=B19.keep hgB (by intro e;injection e with e;exact Yve B19 h.B rfl e);have h:=h.set (S':={ S with vars:=[],scope:=0 }) hgB BB rfl rfl;refine AU ?_;refine Xi O Va (Zd O) Xg O O h.B O O ?_;intro wC hgC hzC BC
 replace E:=E.keepT hgC (h.B) rfl;have g:=Wu g hgC h.B rfl h.hb;have hk0:=hk0.keep hgC (fun k hk _ e=>by injection e with e;have:=h.hb;omega);have B19:=B19.keep hgC (by intro e;injection e with e;exact Yve B19 h.B rfl e);have h:=h.set (S':={ S with vars:=[],scope:=0,level:=0 }) hgC BC rfl rfl;refine Qq O (Yf Wt O (Xi O Zcc (Zd O) (Zd O) O O h.B O O ?_));intro wD hgD hzD BD;replace E:=E.keepT hgD (h.B) rfl;have g:=Wu g hgD h.B rfl h.hb;have hk0:=hk0.keep hgD (fun k hk _ e=>by injection e with e;have:=h.hb;omega);have hb19:n0≤b19:=by have:=l19;omega
 have h:=(h.setn (S':=funS0 S) (Wgc _ _) (Ytf B19 hb19 rfl (by show 1≤1000000;decide)) hgD BD rfl).chk;refine Ze (kq (Zi (Zk (?_))));obtain ⟨e0,p0,c0,hcq,hkq⟩:=Yl hk0 (i:=0) (by omega);have hDp:pb p<n0:=Wca hk0 (show 0<t.kids.length by omega);refine Yf Zg O (Yp Zf O (E.g2.at_ O) (Ji Zc O O (by omega) e0 (Ve Zh O O hcq (CL (Vq (Zb t 0) _ _ _) ?_))));rintro _ _ ⟨rfl,ga⟩;refine RC fun g E=>?_;have h:=Uk h;have hcq:=Uk hcq;have hkq:=Uk hkq;have hk0:=Uk hk0;refine AN fun b6 _ ga _ g E=>?_;have h:=Ui h;have hcq:=Ui hcq;have hkq:=Ui hkq;have hk0:=Ui hk0;refine AS fun _ ga Ca g E=>?_;have h:=Ub h;have hcq:=Uh hcq;have hkq:=Ud hkq;have hk0:=Ud hk0;refine Ze (kq (Zi (Zi (Zk (Yr O (Ze (kq (Yo (?_)))))))));have hnd1:=E.1;refine Xo (fun (i:Nat) u1=>(i≤(Zb t 0).kids.length∧Chk F n0 b (parA F (Zb t 0) (funS0 S) i).2 u1∧∃ s,Blk u1 b6 Ys (ndCells (clnT (Zb t 0)) s)∧OwnN [b3,b4,b5,b6] w.heap.size u1 (parA F (Zb t 0) (funS0 S) i).1 s)∧GT mutR n0 w u1) _ [(0,True,_),(3,True,_),(4,True,_),(5,True,_),(6,True,_)] (fun (i:Nat)=>[(7,True,.int .i64 i)]) (fun (i:Nat)=>(Zb t 0).kids.length-i) (0) ⟨⟨Nat.zero_le _,h,_,E.g0,Wqa _ _ _⟩,g⟩ (Zs (blkE E.g3) (Zs (blkE E.g2) (Zs (blkE E.g1) (Zz _)))) (Za O (Za O (Za O (Za O (Za O (Za O (Zo _))))))) ?_;clear E;rintro i u1 ⟨hI1,gl1⟩ ⟨B3,B4,B5,_⟩;replace B3:Blk _ _ _ _:=B3;replace B4:Blk _ _ _ _:=B4;replace B5:Blk _ _ _ _:=B5;have g:=gl1;obtain ⟨hi,h,s,B6,hO⟩:=hI1;obtain ⟨sa,sc,rfl⟩:=hO.slice;have hk0:=hkw.gt gl1 (fun k h=>h);obtain ⟨e0,p0,c0,hcq,hkq⟩:=Yl hk0 (i:=0) (by omega);obtain ⟨_,p1,c1,hc1,hk1⟩:=Yl hk0 (i:=1) (by omega);obtain ⟨_,p2,c2,hc2,hk2⟩:=Yl hk0 (i:=2) (by omega)
 have hlen:=Uxe F (Zb t 0) (funS0 S) i;have E:=Jo (L:=[(b6,_,_),(b5,_,_),(b4,_,_),(b3,_,_)]) hnd1 ⟨B6,B5,B4,B3,trivial⟩ rfl;refine Zi (Zi (Zk (Zp O (Yf Zg O (Yp Zf O (E.g3.at_ O) (Ji Zc O O (by omega) e0 (Yf Zg O (Yp Zf O (hcq.one (i:=4) O) (Xha Zc O (Xna O O (Ze (kq (Wn O (fun h1=>?_) (fun h1=>?_))))))))))))));replace h1:i<(Zb t 0).kids.length:=by simp only [decide_eq_true_eq] at h1;omega
 obtain ⟨ef,pf,cf,hcf,hkf⟩:=Yl hkq (i:=i) h1;have hDq:pb p0<n0:=Wca hkq h1;have hmf:(Zb (Zb t 0) i)∈(Zb t 0).kids:=by rw [Wc h1];exact List.getElem_mem h1
 have hf3:=Wcb (.inr hk5) hp5 _ hmf;have hfl:=(pf3 hf3.1 hf3.2).1;have hcF:=Jk h1;obtain ⟨eg,pg,cg,hcg,hkg⟩:=Yl hkf (i:=0) (by omega);have hDf:pb pf<n0:=Wca hkf (show 0<(Zb (Zb t 0) i).kids.length by omega);have hbd:=Xpg F (Zb t 0) S i;refine Yb (kq (Zi (Yo (Zi (Zk (Yf Zg O (Yp Zf O (E.g3.at_ O) (Ji Zc O O (by omega) e0 (Yf Zg O (Yp Zf O (hcq.one (i:=4) O) (Zp O (Ji Zc O O (by omega) ef (Ve Zh O O hcf (AN fun b8 _ ga _ g E=>?_))))))))))))));have hO:=Uj hO;have h:=Ui h;have hcq:=Ui hcq;have hc1:=Ui hc1;have hc2:=Ui hc2;have hcf:=Ui hcf;have hcg:=Ui hcg;have hkf:=Ui hkf;refine AS fun _ ga Ca g E=>?_;have h:=Ub h;have hcq:=Uh hcq;have hc1:=Uh hc1;have hc2:=Uh hc2;have hcf:=Uh hcf;have hcg:=Uh hcg;have hkf:=Ud hkf;have hO:=Ue hO;refine AU ?_;refine CL (Ytb (Zb (Zb (Zb t 0) i) 0) _ _ _) ?_;rintro _ _ ⟨rfl,ga⟩;refine RC fun g E=>?_;have h:=Uk h;have hcq:=Uk hcq;have hc1:=Uk hc1;have hc2:=Uk hc2;have hcf:=Uk hcf;have hcg:=Uk hcg;have hkf:=Uk hkf;have hO:=Uk hO;refine AN fun b9 _ ga _ g E=>?_;have hO:=Uj hO;have h:=Ui h;have hcq:=Ui hcq;have hc1:=Ui hc1;have hc2:=Ui hc2;have hcf:=Ui hcf;have hcg:=Ui hcg;have hkf:=Ui hkf;refine AS fun _ ga Ca g E=>?_;have h:=Ub h;have hcq:=Uh hcq;have hc1:=Uh hc1;have hc2:=Uh hc2;have hcf:=Uh hcf;have hcg:=Uh hcg;have hkf:=Ud hkf;have hO:=Ue hO;refine AU ?_;have hOlt:=hO.lt;refine AU ?_;refine CL (Wda (Zb (Zb t 0) i) [b3,b4,b5,b6,b8,b9] hkf (by omega) (E.ltm (by simp [selB])) g.size) ?_;rintro _ _ ⟨⟨p60,c60,rfl,q60,k60⟩,ga⟩;refine RC fun g E=>?_;have h:=Uk h;have hcq:=Uk hcq;have hc1:=Uk hc1;have hc2:=Uk hc2;have hcf:=Uk hcf;have hcg:=Uk hcg;have hO:=Uk hO;rw [Xva] at k60
 refine AN fun b11 _ ga _ g E=>?_;have hO:=Uj hO;have k60:=Uj k60;have h:=Ui h;have hcq:=Ui hcq;have hc1:=Ui hc1;have hc2:=Ui hc2;have hcf:=Ui hcf;have hcg:=Ui hcg;refine AS fun wS9 ga Ca g E=>?_;have h:=Ub h;have hcq:=Uh hcq;have hc1:=Uh hc1;have hc2:=Uh hc2;have hcf:=Uh hcf;have hcg:=Uh hcg;have k60:=Ua k60;have hO:=Ue hO;refine AU ?_
 have B11:Blk wS9 b11 Ys (ndCells (clnT (Zb (Zb t 0) i)) (.slice p60 ((Zb (Zb t 0) i).kids.map plainT).length c60)):=by
  have h:=E.g0;rw [Jhc,Xva] at h;exact h
 replace E:=E.r0 B11;refine AS fun _ ga Ca g E=>?_;have h:=Ub h;have hcq:=Uh hcq;have hc1:=Uh hc1;have hc2:=Uh hc2;have hcf:=Uh hcf;have hcg:=Uh hcg;have k60:=Ua k60;have hO:=Ue hO;refine AU ?_;refine CL (Vka (Zb (Zb t 0) i).text (ofF (Zb (Zb (Zb t 0) i) 0)).1 (Zb (Zb t 0) i).pos h hbd (by omega)) ?_;rintro _ _ ⟨rfl,h,ga⟩;refine RC fun g E=>?_;have hcq:=hcq.gt ga hDp;have hc1:=hc1.gt ga hDp;have hc2:=hc2.gt ga hDp;have hcf:=hcf.gt ga hDq;have hcg:=hcg.gt ga hDf;have k60:=Ul k60;have hO:=hO.gt ga rfl;refine AS fun _ ga Ca g E=>?_;have h:=Ub h;have hcq:=Uh hcq;have hc1:=Uh hc1;have hc2:=Uh hc2;have hcf:=Uh hcf;have hcg:=Uh hcg;have k60:=Ua k60;have hO:=Ue hO;refine AU ?_;refine CL (Qoc (Zb (Zb (Zb t 0) i) 0) _ _ h) ?_;rintro _ _ ⟨rfl,h,ga⟩;refine RC fun g E=>?_;have k60:=Ul k60;have hO:=hO.gt ga rfl;refine AU ?_;have hO:=hO.sub (Y:=[b3,b4,b5,b6]) (by intro j hj;simp at hj ⊢;omega);refine CN fun _ _ ga _ g E=>?_;have hO:=Uj hO;have k60:=Uj k60;have h:=Ui h;have hOo:=hO;refine Xx O Zc Zt O (Zd O) hO (Zd O) O E.g0.row (Ql (t:=.mk (Zb (Zb t 0) i).kind (Zb (Zb t 0) i).text (declN (parA F (Zb t 0) (funS0 S) i).2) (Zb (Zb t 0) i).pos ((Zb (Zb t 0) i).kids.map plainT) ty0 1 0) k60 q60 (by intro j hj;simp at hj ⊢;omega) (fun j hj=>.inr (hOlt j hj))) (by simp;omega) (by have:=g.size;omega) ⟨by have:=g.size;omega,by have q3:=E.g7.lt;have q4:=E.g6.lt;have q5:=E.g5.lt;have q6:=E.g4.lt;have q79:=E.g0.lt;simp;omega⟩ ?_;intro a80 c80 w80 hO hg80;replace E:=E.sel [true,false,false,false,true,true,true,true];replace E:=E.keepX hg80 hOo.ne (by simp [selB]);have g:=Ww g hg80 (fun k hk=>hOo.ge k hk);have h:=h.keepO hg80 hOo (by omega);refine AS fun _ ga Ca g E=>?_
 have h:=Ub h;have hO:=Ue hO;refine Ze (kq (Zk (Zp O (Jta O O (by omega) (Yr O (Vf [(7,_,_),(0,_,_),(3,_,_),(4,_,_),(5,_,_),(6,_,_)] (Za O (Za O (Za O (Za O (Za O (Za O (Zo _))))))) (Ze (fun a ha=>?_))))))));have hO:=hO.sub (Y:=[b3,b4,b5,b6]) (by intro j hj;simp at hj ⊢;omega);exact ⟨i+1,ha,⟨⟨h1,h,_,E.g1,hO⟩,g⟩,(Zs (blkE E.g4) (Zs (blkE E.g3) (Zs (blkE E.g2) (Zz _)))),by omega⟩;replace h1:i=(Zb t 0).kids.length:=by simp only [decide_eq_false_iff_not] at h1;omega
 subst h1;refine Jl O (kq (Zi (Zk (?_))));obtain ⟨fv,sv,sn,h⟩:=h;refine Zp O (Jv Wl Vi pq0 O O (Qq O (Yf Zia O (Xi O We (Zd O) (Zd O) O O h.B O O ?_))));intro wE hgE hzE BE;replace E:=E.keepT hgE (h.B) rfl;have g:=Wu g hgE h.B rfl h.hb;have hcq:=Vz hcq hgE (by have:=h.hb;omega);have hc1:=Vz hc1 hgE (by have:=h.hb;omega);have hc2:=Vz hc2 hgE (by have:=h.hb;omega);have hk1:=hk1.keep hgE (fun k hk _ e=>by injection e with e;have:=h.hb;omega);have hk2:=hk2.keep hgE (fun k hk _ e=>by injection e with e;have:=h.hb;omega);have hO:=hO.keept hgE h.B rfl;have h:=h.set (S':=funS1 F t S) hgE BE rfl rfl;refine Ze (kq (Zi (Zi (Zk (Yf Zg O (Yp Zf O (E.g3.at_ O) (Ji Zc O O (by omega) e0 (Yf Xl O (Yp Yh O (hc1.one (i:=0) O) (Yyd O O (Ze (kq (Wn O (fun h2=>?_) (fun h2=>?_))))))))))))));replace h2:decide ((Zb t 1).kind=9)=false:=by simpa using h2
 have eS:{ localS F (Zb t 1) (funS1 F t S) with result:=(ofF (Zb t 1)).1 }=funS2 F t S:=by unfold funS2;rw [h2];rfl
 refine AU ?_;refine CL (Qoc (Zb t 1) _ _ h.chk) ?_;rintro _ _ ⟨rfl,hT,ga⟩;refine RC fun g E=>?_;have hcq:=hcq.gt ga hDp;have hc1:=hc1.gt ga hDp;have hc2:=hc2.gt ga hDp;have hk1:=Um hk1;have hk2:=Um hk2;have hO:=hO.gt ga rfl;obtain ⟨fv,sv,sn,h⟩:=hT;refine AU ?_;refine Xi O We (Zd O) (Zd O) O O h.B O O ?_;intro wG hgG hzG BG;replace E:=E.keepT hgG (h.B) rfl;have g:=Wu g hgG h.B rfl h.hb;have hcq:=Vz hcq hgG (by have:=h.hb;omega);have hc1:=Vz hc1 hgG (by have:=h.hb;omega);have hc2:=Vz hc2 hgG (by have:=h.hb;omega);have hk1:=hk1.keep hgG (fun k hk _ e=>by injection e with e;have:=h.hb;omega);have hk2:=hk2.keep hgG (fun k hk _ e=>by injection e with e;have:=h.hb;omega);have hO:=hO.keept hgG h.B rfl;have h:=h.set (S':={ localS F (Zb t 1) (funS1 F t S) with result:=(ofF (Zb t 1)).1 }) hgG BG rfl rfl;rw [eS] at h;have h:=h.chk;refine AU ?_;refine CL (CkC.to hs2 [b3,b4,b5,b6] h hk2 hbd2 (by omega) (E.ltm (by simp [selB])) g.size) ?_;rintro _ _ ⟨⟨p106,c106,rfl,q106,k106⟩,h,ga⟩;refine RC fun g E=>?_;have hcq:=hcq.gt ga hDp;have hc1:=hc1.gt ga hDp;have hc2:=hc2.gt ga hDp;have hk1:=Um hk1;have hk2:=Um hk2;have hO:=hO.gt ga rfl;refine AN fun b12 _ ga l12 g E=>?_;have hO:=Uj hO;have k106:=Uj k106;have h:=Ui h;have hcq:=Ui hcq;have hc1:=Ui hc1;have hc2:=Ui hc2;have hk1:=Ui hk1;have hk2:=Ui hk2;refine AS fun _ ga Ca g E=>?_;have h:=Ub h;have hcq:=Uh hcq;have hc1:=Uh hc1;have hc2:=Uh hc2;have hk1:=Ud hk1;have hk2:=Ud hk2;have k106:=Ua k106;have hO:=Ue hO
 refine Ze (kq (Zi (Zi (Zk (Yf Zg O (Yp Zf O (E.g4.at_ O) (Ji Zc O O (by omega) e0 (Yf Xl O (Yp Yh O (hc1.one (i:=0) O) (Yyd O O (Zp O (Zj O O O (fun _=>Zn Zg (Zd O)) (Yk O O O (Zw Zf (Zm O id) (fun _=>E.g4.at_ O)) (Zj O O O (fun _=>Xb Zc (Zm O id) Xg (fun _=>by omega) (fun _=>e0)) (Zj O O O (fun _=>Zn Zg (Zm O id)) (Yk O O O (Zw Zf (Zm O id) (fun _=>hc2.one (i:=4) O)) (?_)))))))))))))))));refine Xt O O O (fun _=>(Yi Qob Vc (Ym (Zm O id) (Xh)) O)) (fun hc=>Uwe 1000001 _ _ _ _ hk2 (sh10 hb2) (by have:=Jwb (Zb t 2);omega) (Nat.le_refl _)) (fun w119 g119=>?_);have g:=gtg g g119;replace E:=E.grow g119;have h:=h.grow (g119);have hcq:=hcq.grow (g119);have hc1:=hc1.grow (g119);have hc2:=hc2.grow (g119);have hk1:=hk1.grow (g119);have k106:=k106.grow (g119);have hO:=hO.grow (g119);refine IF (fun h3=>?_) fun h3=>?_;have e3:(decide ((Zb t 1).kind=9) || endsL (Zb t 2).kids)=false:=by revert h3;cases decide ((Zb t 1).kind=9) <;> cases endsL (Zb t 2).kids <;> decide
 refine AU ?_;refine CL (Wi t.pos 7 h) ?_;rintro _ _ ⟨rfl,h,ga⟩;refine RC fun g E=>?_;have hcq:=hcq.gt ga hDp;have hc1:=hc1.gt ga hDp;have hc2:=hc2.gt ga hDp;have hk1:=Um hk1;have k106:=Ul k106;have hO:=hO.gt ga rfl;refine AU ?_;skip;refine Yx [0,3,0,3,0,1,0,1,3,2] [true,true,true,true,true,true,false,true,true,true] [0,0,2,6,14,30,0,127,255,511] mix (by kernel_rfl) ?_;have g:=gtd g;replace E:=E.dr;have h:=h.grow (G.drew _);have hcq:=hcq.grow (G.drew _);have hc1:=hc1.grow (G.drew _);have hc2:=hc2.grow (G.drew _);have hk1:=hk1.grow (G.drew _);have k106:=k106.grow (G.drew _);have hO:=hO.grow (G.drew _);have EC:=E;refine AU ?_;refine CL (Wda (Zb t 1) [b3,b4,b5,b6,b12] hk1 (by omega) (E.ltm (by simp [selB])) g.size) ?_;rintro _ _ ⟨⟨p131,c131,rfl,q131,k131⟩,ga⟩;refine RC fun g E=>?_;have h:=Uk h;have hcq:=Uk hcq;have hc1:=Uk hc1;have hc2:=Uk hc2;have k106:=Uk k106;have hO:=Uk hO;refine Wxa O (Zy Zh (Zd O) O (fun _=>EC.g0.row)) (CN fun _ _ ga l133 g E=>?_);have hO:=Uj hO;have k106:=Uj k106;have k131:=Uj k131;have h:=Ui h;have hcq:=Ui hcq;have hc1:=Ui hc1;have hc2:=Ui hc2;refine AS fun _ ga Ca g E=>?_;have h:=Ub h;have hcq:=Uh hcq;have hc1:=Uh hc1;have hc2:=Uh hc2;have k106:=Ua k106;have k131:=Ua k131;have hO:=Ue hO;refine AS fun _ ga Ca g E=>?_;have h:=Ub h;have hcq:=Uh hcq;have hc1:=Uh hc1;have hc2:=Uh hc2;have k106:=Ua k106;have k131:=Ua k131;have hO:=Ue hO;refine RTN ?_;have e:funR F t S=(annT t [annT (Zb t 0) (parA F (Zb t 0) (funS0 S) (Zb t 0).kids.length).1 ty0,plainT (Zb t 1),((ckT F (Zb t 2)).sts (funS2 F t S)).1] ty0,failU (decide ((Zb t 1).kind=9) || endsL (Zb t 2).kids) t.pos 7 ((ckT F (Zb t 2)).sts (funS2 F t S)).2):=rfl
 rw [e,e3];exact ⟨Zr (t:=annT t [annT (Zb t 0) (parA F (Zb t 0) (funS0 S) (Zb t 0).kids.length).1 ty0,plainT (Zb t 1),_] ty0) rfl (Xm (ks:=[annT (Zb t 0) (parA F (Zb t 0) (funS0 S) (Zb t 0).kids.length).1 ty0,plainT (Zb t 1),_]) ⟨l133,Xa E.g0⟩ E.g0.row (Xj hO.kd (Xj (k131.kdN q131) (Yc (k106.kdN q106)))) (Nat.le_refl _)),h,g⟩;have e3:(decide ((Zb t 1).kind=9) || endsL (Zb t 2).kids)=true:=by revert h3;cases decide ((Zb t 1).kind=9) <;> cases endsL (Zb t 2).kids <;> decide
 refine AU ?_;skip;refine Yx [0,3,0,3,0,1,0,1,3,2] [true,true,true,true,true,true,false,true,true,true] [0,0,2,6,14,30,0,127,255,511] mix (by kernel_rfl) ?_;have g:=gtd g;replace E:=E.dr;have h:=h.grow (G.drew _);have hcq:=hcq.grow (G.drew _);have hc1:=hc1.grow (G.drew _);have hc2:=hc2.grow (G.drew _);have hk1:=hk1.grow (G.drew _);have k106:=k106.grow (G.drew _);have hO:=hO.grow (G.drew _);have EC:=E;refine AU ?_;refine CL (Wda (Zb t 1) [b3,b4,b5,b6,b12] hk1 (by omega) (E.ltm (by simp [selB])) g.size) ?_;rintro _ _ ⟨⟨p131,c131,rfl,q131,k131⟩,ga⟩;refine RC fun g E=>?_;have h:=Uk h;have hcq:=Uk hcq;have hc1:=Uk hc1;have hc2:=Uk hc2;have k106:=Uk k106;have hO:=Uk hO;refine Wxa O (Zy Zh (Zd O) O (fun _=>EC.g0.row)) (CN fun _ _ ga l133 g E=>?_);have hO:=Uj hO;have k106:=Uj k106;have k131:=Uj k131;have h:=Ui h;have hcq:=Ui hcq;have hc1:=Ui hc1;have hc2:=Ui hc2;refine AS fun _ ga Ca g E=>?_;have h:=Ub h;have hcq:=Uh hcq;have hc1:=Uh hc1;have hc2:=Uh hc2;have k106:=Ua k106;have k131:=Ua k131;have hO:=Ue hO;refine AS fun _ ga Ca g E=>?_;have h:=Ub h;have hcq:=Uh hcq;have hc1:=Uh hc1;have hc2:=Uh hc2;have k106:=Ua k106;have k131:=Ua k131;have hO:=Ue hO;refine RTN ?_;have e:funR F t S=(annT t [annT (Zb t 0) (parA F (Zb t 0) (funS0 S) (Zb t 0).kids.length).1 ty0,plainT (Zb t 1),((ckT F (Zb t 2)).sts (funS2 F t S)).1] ty0,failU (decide ((Zb t 1).kind=9) || endsL (Zb t 2).kids) t.pos 7 ((ckT F (Zb t 2)).sts (funS2 F t S)).2):=rfl;rw [e,e3]
 exact ⟨Zr (t:=annT t [annT (Zb t 0) (parA F (Zb t 0) (funS0 S) (Zb t 0).kids.length).1 ty0,plainT (Zb t 1),_] ty0) rfl (Xm (ks:=[annT (Zb t 0) (parA F (Zb t 0) (funS0 S) (Zb t 0).kids.length).1 ty0,plainT (Zb t 1),_]) ⟨l133,Xa E.g0⟩ E.g0.row (Xj hO.kd (Xj (k131.kdN q131) (Yc (k106.kdN q106)))) (Nat.le_refl _)),h,g⟩;replace h2:decide ((Zb t 1).kind=9)=true:=by simpa using h2
 have eS:funS1 F t S=funS2 F t S:=by unfold funS2;rw [h2];rfl
 rw [eS] at h;have h:=h.chk;refine AU ?_;refine CL (CkC.to hs2 [b3,b4,b5,b6] h hk2 hbd2 (by omega) (E.ltm (by simp [selB])) g.size) ?_;rintro _ _ ⟨⟨p106,c106,rfl,q106,k106⟩,h,ga⟩;refine RC fun g E=>?_;have hcq:=hcq.gt ga hDp;have hc1:=hc1.gt ga hDp;have hc2:=hc2.gt ga hDp;have hk1:=Um hk1;have hk2:=Um hk2;have hO:=hO.gt ga rfl;refine AN fun b12 _ ga _ g E=>?_;have hO:=Uj hO;have k106:=Uj k106;have h:=Ui h;have hcq:=Ui hcq;have hc1:=Ui hc1;have hc2:=Ui hc2;have hk1:=Ui hk1;have hk2:=Ui hk2;refine AS fun _ ga Ca g E=>?_;have h:=Ub h;have hcq:=Uh hcq;have hc1:=Uh hc1;have hc2:=Uh hc2;have hk1:=Ud hk1;have hk2:=Ud hk2;have k106:=Ua k106;have hO:=Ue hO;refine Ze (kq (Zi (Zi (Zk (Yf Zg O (Yp Zf O (E.g4.at_ O) (Ji Zc O O (by omega) e0 (Yf Xl O (Yp Yh O (hc1.one (i:=0) O) (Yyd O O (Zp O (Zj O O O (fun _=>Zn Zg (Zd O)) (Yk O O O (Zw Zf (Zm O id) (fun _=>E.g4.at_ O)) (Zj O O O (fun _=>Xb Zc (Zm O id) Xg (fun _=>by omega) (fun _=>e0)) (Zj O O O (fun _=>Zn Zg (Zm O id)) (Yk O O O (Zw Zf (Zm O id) (fun _=>hc2.one (i:=4) O)) (?_)))))))))))))))));refine Xt O O O (fun _=>(Yi Qob Vc (Ym (Zm O id) (Xh)) O)) (fun hc=>Uwe 1000001 _ _ _ _ hk2 (sh10 hb2) (by have:=Jwb (Zb t 2);omega) (Nat.le_refl _)) (fun w119 g119=>?_);have g:=gtg g g119;replace E:=E.grow g119;have h:=h.grow (g119);have hcq:=hcq.grow (g119);have hc1:=hc1.grow (g119);have hc2:=hc2.grow (g119);have hk1:=hk1.grow (g119);have k106:=k106.grow (g119);have hO:=hO.grow (g119);refine IF (fun h4=>?_) fun h4=>?_;have e3:(decide ((Zb t 1).kind=9) || endsL (Zb t 2).kids)=false:=by revert h4;cases decide ((Zb t 1).kind=9) <;> cases endsL (Zb t 2).kids <;> decide
 refine AU ?_;refine CL (Wi t.pos 7 h) ?_;rintro _ _ ⟨rfl,h,ga⟩;refine RC fun g E=>?_;have hcq:=hcq.gt ga hDp;have hc1:=hc1.gt ga hDp;have hc2:=hc2.gt ga hDp;have hk1:=Um hk1;have k106:=Ul k106;have hO:=hO.gt ga rfl;refine AU ?_;skip;refine Yx [0,3,0,3,0,1,0,1,3,2] [true,true,true,true,true,true,false,true,true,true] [0,0,2,6,14,30,0,127,255,511] mix (by kernel_rfl) ?_;have g:=gtd g;replace E:=E.dr;have h:=h.grow (G.drew _);have hcq:=hcq.grow (G.drew _);have hc1:=hc1.grow (G.drew _);have hc2:=hc2.grow (G.drew _);have hk1:=hk1.grow (G.drew _);have k106:=k106.grow (G.drew _);have hO:=hO.grow (G.drew _);have EC:=E;refine AU ?_;refine CL (Wda (Zb t 1) [b3,b4,b5,b6,b12] hk1 (by omega) (E.ltm (by simp [selB])) g.size) ?_;rintro _ _ ⟨⟨p131,c131,rfl,q131,k131⟩,ga⟩;refine RC fun g E=>?_;have h:=Uk h;have hcq:=Uk hcq;have hc1:=Uk hc1;have hc2:=Uk hc2;have k106:=Uk k106;have hO:=Uk hO;refine Wxa O (Zy Zh (Zd O) O (fun _=>EC.g0.row)) (CN fun _ _ ga l133 g E=>?_);have hO:=Uj hO;have k106:=Uj k106;have k131:=Uj k131;have h:=Ui h;have hcq:=Ui hcq;have hc1:=Ui hc1;have hc2:=Ui hc2;refine AS fun _ ga Ca g E=>?_;have h:=Ub h;have hcq:=Uh hcq;have hc1:=Uh hc1;have hc2:=Uh hc2;have k106:=Ua k106;have k131:=Ua k131;have hO:=Ue hO;refine AS fun _ ga Ca g E=>?_;have h:=Ub h;have hcq:=Uh hcq;have hc1:=Uh hc1;have hc2:=Uh hc2;have k106:=Ua k106;have k131:=Ua k131;have hO:=Ue hO;refine RTN ?_;have e:funR F t S=(annT t [annT (Zb t 0) (parA F (Zb t 0) (funS0 S) (Zb t 0).kids.length).1 ty0,plainT (Zb t 1),((ckT F (Zb t 2)).sts (funS2 F t S)).1] ty0,failU (decide ((Zb t 1).kind=9) || endsL (Zb t 2).kids) t.pos 7 ((ckT F (Zb t 2)).sts (funS2 F t S)).2):=rfl
 rw [e,e3];exact ⟨Zr (t:=annT t [annT (Zb t 0) (parA F (Zb t 0) (funS0 S) (Zb t 0).kids.length).1 ty0,plainT (Zb t 1),_] ty0) rfl (Xm (ks:=[annT (Zb t 0) (parA F (Zb t 0) (funS0 S) (Zb t 0).kids.length).1 ty0,plainT (Zb t 1),_]) ⟨l133,Xa E.g0⟩ E.g0.row (Xj hO.kd (Xj (k131.kdN q131) (Yc (k106.kdN q106)))) (Nat.le_refl _)),h,g⟩;have e3:(decide ((Zb t 1).kind=9) || endsL (Zb t 2).kids)=true:=by revert h4;cases decide ((Zb t 1).kind=9) <;> cases endsL (Zb t 2).kids <;> decide
 refine AU ?_;skip;refine Yx [0,3,0,3,0,1,0,1,3,2] [true,true,true,true,true,true,false,true,true,true] [0,0,2,6,14,30,0,127,255,511] mix (by kernel_rfl) ?_;have g:=gtd g;replace E:=E.dr;have h:=h.grow (G.drew _);have hcq:=hcq.grow (G.drew _);have hc1:=hc1.grow (G.drew _);have hc2:=hc2.grow (G.drew _);have hk1:=hk1.grow (G.drew _);have k106:=k106.grow (G.drew _);have hO:=hO.grow (G.drew _);have EC:=E;refine AU ?_;refine CL (Wda (Zb t 1) [b3,b4,b5,b6,b12] hk1 (by omega) (E.ltm (by simp [selB])) g.size) ?_;rintro _ _ ⟨⟨p131,c131,rfl,q131,k131⟩,ga⟩;refine RC fun g E=>?_;have h:=Uk h;have hcq:=Uk hcq;have hc1:=Uk hc1;have hc2:=Uk hc2;have k106:=Uk k106;have hO:=Uk hO;refine Wxa O (Zy Zh (Zd O) O (fun _=>EC.g0.row)) (CN fun _ _ ga l133 g E=>?_);have hO:=Uj hO;have k106:=Uj k106;have k131:=Uj k131;have h:=Ui h;have hcq:=Ui hcq;have hc1:=Ui hc1;have hc2:=Ui hc2;refine AS fun _ ga Ca g E=>?_;have h:=Ub h;have hcq:=Uh hcq;have hc1:=Uh hc1;have hc2:=Uh hc2;have k106:=Ua k106;have k131:=Ua k131;have hO:=Ue hO;refine AS fun _ ga Ca g E=>?_;have h:=Ub h;have hcq:=Uh hcq;have hc1:=Uh hc1;have hc2:=Uh hc2;have k106:=Ua k106;have k131:=Ua k131;have hO:=Ue hO;refine RTN ?_;have e:funR F t S=(annT t [annT (Zb t 0) (parA F (Zb t 0) (funS0 S) (Zb t 0).kids.length).1 ty0,plainT (Zb t 1),((ckT F (Zb t 2)).sts (funS2 F t S)).1] ty0,failU (decide ((Zb t 1).kind=9) || endsL (Zb t 2).kids) t.pos 7 ((ckT F (Zb t 2)).sts (funS2 F t S)).2):=rfl;rw [e,e3]
 exact ⟨Zr (t:=annT t [annT (Zb t 0) (parA F (Zb t 0) (funS0 S) (Zb t 0).kids.length).1 ty0,plainT (Zb t 1),_] ty0) rfl (Xm (ks:=[annT (Zb t 0) (parA F (Zb t 0) (funS0 S) (Zb t 0).kids.length).1 ty0,plainT (Zb t 1),_]) ⟨l133,Xa E.g0⟩ E.g0.row (Xj hO.kd (Xj (k131.kdN q131) (Yc (k106.kdN q106)))) (Nat.le_refl _)),h,g⟩
set_option maxHeartbeats 4000000
theorem Wic{F:Nd}(h:validB F=true):F.kind=1∧permF F=true:=by
 unfold validB at h;simp only [Bool.and_eq_true] at h;unfold Zbg at h;simp only [Bool.and_eq_true,decide_eq_true_eq] at h;first|exact ⟨h.1.1,h.1.2⟩|exact ⟨h.1.2,h.1.1⟩|exact ⟨h.2.1,h.2.2⟩|exact ⟨h.1,h.2.1⟩|exact ⟨h.1,h.2.2⟩
theorem Vhd{F:Nd}(h1:F.kind=1)(hp:permF F=true):∀ d∈F.kids,(d.kind=2∨d.kind=6∨d.kind=4)∧permF d=true:=by
 have hf:=Uva hp;rw [Yua,h1] at hf;have hf:((!(F.kids.any fileVarB)&&everyB F (memK [2,6,4]))&&F.kids.all permF)=true:=hf;simp only [Bool.and_eq_true,everyB,List.all_eq_true] at hf;intro d hm;have:=hf.1.2 d hm;simp only [memK,decide_eq_true_eq,List.mem_cons,List.not_mem_nil,or_false] at this;exact ⟨this,hf.2 d hm⟩
theorem Yth{F:Nd}(h:validB F=true):FSh F:=by
 obtain ⟨h1,hp⟩:=Wic h;have hd:=Vhd h1 hp;refine ⟨fun d hm e=>?_,fun d hm e=>?_,fun d hm e f hf=>?_⟩;have:=(pf6 e (hd d hm).2).1;omega;have:=(pf4 e (hd d hm).2).1;omega;obtain ⟨_,⟨h5,hp5⟩,_⟩:=pf4 e (hd d hm).2;have q:=Wcb (.inr h5) hp5 f hf;have:=(pf3 q.1 q.2).1;omega
theorem Uze(F:Nd)(S:CSt):∀ i,(dclA F S i).1.length=i
 | 0=>rfl
 | i+1=>by
  show ((dclA F S i).1++[_]).length=_;rw [List.length_append,Uze F S i];rfl
theorem Xqg{F t:Nd}(Z:List Nat)(H:FSh F)(hk4:t.kind=4)(hp:permF t=true){n0 b m0:Nat}{S:CSt}{w:World}{v:Value}(h:Chk F n0 b S w)(hkw:Kd w (fun k=>k<n0) t.kids v)(hcn:count t≤1000000)(hZ:∀ j∈Z,j<w.heap.size)(hm:m0≤w.heap.size) :
 Ret PP Vea #[.pointer (some ⟨b,0,none⟩),ndV t v] w fun r w'=>(∃ p c,r=ndV (funR F t S).1 (.slice p (funR F t S).1.kids.length c)∧m0≤w.heap.size∧KdX w.heap.size Z w' (funR F t S).1.kids (.slice p (funR F t S).1.kids.length c))∧Chk F n0 b (funR F t S).2 w'∧GT mutR n0 w w' :=
 (Qog H hk4 hp h hkw hcn).mono fun r w' hr=>by
 obtain ⟨⟨p,c,e,k⟩,h1,h2⟩:=hr;exact ⟨⟨p,c,e,hm,KdN.x k hZ⟩,h1,h2⟩
theorem Upf(F:Nd)(v:Value)(D:Nat→Prop)(w:World)(hkD:Kd w D F.kids v)(hcn:count F≤1000000):Ret PP Zae #[ndV F v] w fun r w'=>(∃ u,r = .tuple #[u,.int .i64 (refCheck F).2.1,.int .i64 (refCheck F).2.2]∧RetN (refCheck F).1 w.heap.size u w')∧G w w':=by
 obtain ⟨n0,hn0⟩:∃ n,n=w.heap.size:=⟨_,rfl⟩;have hkw:Kd w (fun k=>k<n0) F.kids v:=Kd.mono hkD fun k _ hlt=>by rw [hn0];exact hlt
 have hk0:=hkw;obtain ⟨p,c,rfl,_⟩:=id hkw;have hln:=Wz F;have g:=GT.refl mutR n0 w;refine WK 139 [0] Xfd ?_;refine BM fun b1 w1 ga _ g E=>?_;have hk0:=Ui hk0;refine AN fun b2 _ ga _ g E=>?_;have hk0:=Ui hk0;refine AU ?_;refine CL (Vle F _ _ _ hk0 hcn) ?_;rintro _ _ ⟨rfl,ga⟩;refine RC fun g E=>?_;have hk0:=Uk hk0;refine IF (fun h1=>?_) fun h1=>?_;have hv:validB F=false:=by simpa using h1
 refine AS fun _ _ _ g E=>?_;refine RTN ?_;have er:refCheck F=(nd0,0,1):=by unfold refCheck;rw [hv];rfl
 rw [er];exact ⟨⟨_,rfl,Zkc nd0 _ _ rfl⟩,Zyd (G.refl w) g (by omega)⟩;have hv:validB F=true:=by simpa using h1
 have H:=Yth hv;obtain ⟨hF1,hFp⟩:=Wic hv;have hdc:=Vhd hF1 hFp;refine AU ?_;refine Wya O (Zd O) O ?_;intro b20 w20 N20;have l20:=Yea N20 g.size;have B20:=N20.blk;have x20_1:=N20.ne E.g1;have x20_2:=N20.ne E.g0;have g:=gtg g N20.g;replace E:=E.grow N20.g;have hk0:=hk0.grow (N20.g);refine AU ?_;have h:Chk F n0 b20 rs0 _:=(⟨B20,by omega,hk0,hcn,⟨rfl,.inl ⟨rfl,rfl⟩⟩,⟨rfl,.inl ⟨rfl,rfl⟩⟩⟩:CK F n0 b20 rs0 (.slice p F.kids.length c) (.slice none 0 0) (.slice none 0 0) _).chk;have hlt:=l20;refine AU ?_;have hnd1:=E.1;refine Xo (fun (i:Nat) u1=>(i≤F.kids.length∧Chk F n0 b20 (namA F rs0 i) u1)∧GT mutR n0 w u1) _ [(1,True,_),(2,True,_),(3,True,_),(4,True,_),(5,True,_)] (fun (i:Nat)=>[(6,True,.int .i64 i)]) (fun (i:Nat)=>F.kids.length-i) (0) ⟨⟨Nat.zero_le _,h⟩,g⟩ (Zs (blkE E.g1) (Zs (blkE E.g0) (Zz _))) (Za O (Za O (Za O (Za O (Za O (Za O (Zo _))))))) ?_;clear E;rintro i u1 ⟨hI1,gl1⟩ ⟨B1,B2,_⟩;replace B1:Blk _ _ _ _:=B1;replace B2:Blk _ _ _ _:=B2;have g:=gl1;obtain ⟨hi,h⟩:=hI1;have E:=Jo (L:=[(b2,_,_),(b1,_,_)]) hnd1 ⟨B2,B1,trivial⟩ rfl;refine IF (fun h2=>?_) fun h2=>?_;replace h2:i<F.kids.length:=by simp only [decide_eq_true_eq] at h2;omega
 refine AU ?_;have hnd2:=E.1;refine Xo (fun (j:Nat) u2=>(j≤i∧Chk F n0 b20 (failU (!(F.kids.take j).any (smP F i)) (Zb F i).pos 6 (namA F rs0 i)) u2)∧GT mutR n0 w u2) _ [(1,True,_),(2,True,_),(3,True,_),(4,True,_),(5,True,_),(6,True,_)] (fun (j:Nat)=>[(7,True,.int .i64 j)]) (fun (j:Nat)=>i-j) (0) ⟨⟨Nat.zero_le _,h⟩,g⟩ (Zs (blkE E.g1) (Zs (blkE E.g0) (Zz _))) (Za O (Za O (Za O (Za O (Za O (Za O (Za O (Zo _)))))))) ?_;clear E;rintro j u2 ⟨hI2,gl2⟩ ⟨B1,B2,_⟩;replace B1:Blk _ _ _ _:=B1;replace B2:Blk _ _ _ _:=B2;have g:=gl2;obtain ⟨hj,h⟩:=hI2;have hk0:=hkw.gt gl2 (fun k h=>h);obtain ⟨ei,pi,ci,hci,hki⟩:=Yl hk0 (i:=i) h2;have E:=Jo (L:=[(b2,_,_),(b1,_,_)]) hnd2 ⟨B2,B1,trivial⟩ rfl;refine Zi (Zi (Zk (Zp O (Zp O (Xna O O (Ze (kq (Wn O (fun h3=>?_) (fun h3=>?_)))))))));replace h3:j<i:=by simp only [decide_eq_true_eq] at h3;omega
 obtain ⟨ej,pj,cj,hcj,hkj⟩:=Yl hk0 (i:=j) (by omega);have hst:=Jnd (show j<F.kids.length by omega) (smP F i);rw [← Wc] at hst;refine Yb (kq (Zi (Yo (Zi (Yx [3,0,3,3,3,0,3,0,3,3,3,0,3] [true,true,true,true,true,true,true,true,true,true,true,true,true] [0,1,0,7,15,31,0,64,0,448,960,1984,4095] mix (by kernel_rfl) ?_)))));have g:=gtd g;replace E:=E.dr;have h:=h.grow (G.drew _);have hk0:=hk0.grow (G.drew _);refine Yf Zg O (Yp Zf O (E.g1.at_ O) (Zp O (Ji Zc O O (by omega) ej (Yf Yn O (Yp Yg O ((hcj.grow (G.drew _)).one (i:=1) O) (Yf Zg O (Yp Zf O (E.g1.at_ O) (Zp O (Ji Zc O O (by omega) ei (Yf Yn O (Yp Yg O ((hci.grow (G.drew _)).one (i:=1) O) (Jvd O O (Ze (kq (Wn O (fun h4=>?_) (fun h4=>?_))))))))))))))));replace h4:smP F i (Zb F j)=true:=h4;obtain ⟨ei,pi,ci,hci,hki⟩:=Yl hk0 (i:=i) h2;refine Zk (Zp O (Yf Zg O (Yp Zf O (E.g1.at_ O) (Zp O (Ji Zc O O (by omega) ei (Yf Wma O (Yp Yh O (hci.one (i:=3) O) (CL (Wi (Zb F i).pos 6 h) ?_))))))));rintro _ _ ⟨rfl,h,ga⟩;refine RC fun g E=>?_;refine AU ?_;refine SK [7,1,2,3,4,5,6] ?_;refine Ze (fun a ha=>?_);exact ⟨j+1,ha,⟨⟨h3,by rw [hst,Vja (by decide),h4];exact h⟩,g⟩,(Zs (blkE E.g1) (Zs (blkE E.g0) (Zz _))),by omega⟩;replace h4:smP F i (Zb F j)=false:=h4;refine AU ?_;refine SK [7,1,2,3,4,5,6] ?_;refine Ze (fun a ha=>?_);exact ⟨j+1,ha,⟨⟨h3,by rw [hst,Vja (by decide),h4];exact h⟩,g⟩,(Zs (blkE E.g1) (Zs (blkE E.g0) (Zz _))),by omega⟩;replace h3:j=i:=by simp only [decide_eq_false_iff_not] at h3;omega
 subst h3;refine AU ?_;refine SK [6,1,2,3,4,5] ?_;refine Ze (fun a ha=>?_);exact ⟨j+1,ha,⟨⟨h2,h⟩,g⟩,(Zs (blkE E.g1) (Zs (blkE E.g0) (Zz _))),by omega⟩;replace h2:i=F.kids.length:=by simp only [decide_eq_false_iff_not] at h2;omega
 subst h2;refine AU ?_;have hk0:=hkw.gt gl1 (fun k h=>h);refine AU ?_;refine CL (Vq F _ _ _) ?_;rintro _ _ ⟨rfl,ga⟩;refine RC fun g E=>?_;have h:=Uk h;have hk0:=Uk hk0;refine AN fun b8 _ ga _ g E=>?_;have h:=Ui h;have hk0:=Ui hk0;refine AS fun _ ga Ca g E=>?_;have h:=Ub h;have hk0:=Ud hk0;refine AU ?_;have hnd3:=E.1;refine Xo (fun (i:Nat) u3=>(i≤F.kids.length∧Chk F n0 b20 (dclA F (namA F rs0 F.kids.length) i).2 u3∧∃ s,Blk u3 b8 Ys (ndCells (clnT F) s)∧OwnN [b1,b2,b8] w.heap.size u3 (dclA F (namA F rs0 F.kids.length) i).1 s)∧GT mutR n0 w u3) _ [(1,True,_),(2,True,_),(3,True,_),(4,True,_),(5,True,_),(8,True,_),(54,True,_),(55,True,_)] (fun (i:Nat)=>[(9,True,.int .i64 i)]) (fun (i:Nat)=>F.kids.length-i) (0) ⟨⟨Nat.zero_le _,h,_,E.g0,Wqa _ _ _⟩,g⟩ (Zs (blkE E.g2) (Zs (blkE E.g1) (Zz _))) (Za O (Za O (Za O (Za O (Za O (Za O (Za O (Za O (Za O (Zo _)))))))))) ?_;clear E;rintro i u3 ⟨hI3,gl3⟩ ⟨B1,B2,_⟩;replace B1:Blk _ _ _ _:=B1;replace B2:Blk _ _ _ _:=B2;have g:=gl3;obtain ⟨hi,h,s,B8,hO⟩:=hI3;obtain ⟨sa,sc,rfl⟩:=hO.slice;have hk0:=hkw.gt gl3 (fun k h=>h);have hlen:=Uze F (namA F rs0 F.kids.length) i;have E:=Jo (L:=[(b8,_,_),(b2,_,_),(b1,_,_)]) hnd3 ⟨B8,B2,B1,trivial⟩ rfl;refine IF (fun h5=>?_) fun h5=>?_;replace h5:i<F.kids.length:=by simp only [decide_eq_true_eq] at h5;omega
 obtain ⟨e0,p1,c1,hcell,hkid⟩:=Yl hk0 (i:=i) h5;have hDp:pb p<n0:=Wca hk0 h5;have hmd:(Zb F i)∈F.kids:=by rw [Wc h5];exact List.getElem_mem h5
 obtain ⟨hdk,hdp⟩:=hdc _ hmd;have hcd:=Jk h5;have ea:dclA F (namA F rs0 F.kids.length) (i+1)=((dclA F (namA F rs0 F.kids.length) i).1++[(dclR F (Zb F i) (dclA F (namA F rs0 F.kids.length) i).2).1],(dclR F (Zb F i) (dclA F (namA F rs0 F.kids.length) i).2).2):=rfl;refine AN fun b10 _ ga _ g E=>?_;have hO:=Uj hO;have h:=Ui h;have hcell:=Ui hcell;have hkid:=Ui hkid;refine AS fun _ ga Ca g E=>?_;have h:=Ub h;have hcell:=Uh hcell;have hkid:=Ud hkid;have hO:=Ue hO;refine AU ?_;have hOlt:=hO.lt;refine AU ?_;refine CL (Wda (Zb F i) [b1,b2,b8,b10] hkid (by omega) (E.ltm (by simp [selB])) g.size) ?_;rintro _ _ ⟨⟨p69,c69,rfl,q69,k69⟩,ga⟩;refine RC fun g E=>?_;have h:=Uk h;have hcell:=Uk hcell;have hkid:=Uk hkid;have hO:=Uk hO;refine AN fun b11 _ ga _ g E=>?_;have hO:=Uj hO;have k69:=Uj k69;have h:=Ui h;have hcell:=Ui hcell;have hkid:=Ui hkid;refine AS fun _ ga Ca g E=>?_;have h:=Ub h;have hcell:=Uh hcell;have hkid:=Ud hkid;have k69:=Ua k69;have hO:=Ue hO;refine IF (fun h6=>?_) fun h6=>?_;replace h6:(Zb F i).kind=2:=of_decide_eq_true h6;have ed:dclR F (Zb F i) (dclA F (namA F rs0 F.kids.length) i).2=(plainT (Zb F i),strA F (Zb F i) (dclA F (namA F rs0 F.kids.length) i).2 (Zb F i).kids.length):=by unfold dclR;rw [Weh h6];rfl
 refine AU ?_;refine CL (Zuf (fun f hf=>by have q:=Wcb (.inl h6) hdp f hf;have:=(pf3 q.1 q.2).1;omega) h hkid (by omega)) ?_;rintro _ _ ⟨rfl,h,ga⟩;refine RC fun g E=>?_;have k69:=Ul k69;have hO:=hO.gt ga rfl;refine AU ?_;first|have kzz:=k89|have kzz:=k69
 first|have qzz:=q89|have qzz:=q69
 have hO:=hO.sub (Y:=[b1,b2,b8]) (by intro j hj;simp at hj ⊢;omega);refine CN fun _ _ ga l93 g E=>?_;have hO:=Uj hO;have kzz:=Uj kzz;have h:=Ui h;have hOo:=hO;refine Xx O Zc Zt O (Zd O) hO (Zd O) O E.g0.row (Ql kzz qzz (by intro j hj;simp at hj ⊢;omega) (fun j hj=>.inr (by have:=hOlt j hj;omega))) (by simp;omega) (by have:=g.size;omega) ⟨by have:=g.size;omega,by have q1:=E.g5.lt;have q2:=E.g4.lt;have q8:=E.g3.lt;have q93:=E.g0.lt;simp;omega⟩ ?_;intro a94 c94 w94 hO hg94;replace E:=E.sel [true,false,false,true,true,true];replace E:=E.keepX hg94 hOo.ne (by simp [selB]);have g:=Ww g hg94 (fun k hk=>hOo.ge k hk);have h:=h.keepO hg94 hOo (by omega);refine AS fun _ ga Ca g E=>?_;have h:=Ub h;have hO:=Ue hO;refine AU ?_;refine SK [9,1,2,3,4,5,8,54,55] ?_;refine Ze (fun a ha=>?_);have hO:=hO.sub (Y:=[b1,b2,b8]) (by intro j hj;simp at hj ⊢;omega);exact ⟨i+1,ha,⟨⟨h5,by rw [ea,ed];exact h,_,E.g1,by rw [ea,ed];exact hO⟩,g⟩,(Zs (blkE E.g3) (Zs (blkE E.g2) (Zz _))),by omega⟩;replace h6:(Zb F i).kind≠2:=of_decide_eq_false h6;refine IF (fun h7=>?_) fun h7=>?_;replace h7:(Zb F i).kind=6:=of_decide_eq_true h7;have ed:dclR F (Zb F i) (dclA F (namA F rs0 F.kids.length) i).2=(plainT (Zb F i),pointerS F (Zb (Zb F i) 0) (dclA F (namA F rs0 F.kids.length) i).2):=by unfold dclR;rw [Wdh h6,Weh h7];rfl
 have hl6:=(pf6 h7 hdp).1;obtain ⟨eg,pg,cg,hcg,hkg⟩:=Yl hkid (i:=0) (by omega);refine AU ?_;refine CL (Jub (Zb (Zb F i) 0) _ _ h) ?_;rintro _ _ ⟨rfl,h,ga⟩;refine RC fun g E=>?_;have k69:=Ul k69;have hO:=hO.gt ga rfl;refine AU ?_;first|have kzz:=k89|have kzz:=k69
 first|have qzz:=q89|have qzz:=q69
 have hO:=hO.sub (Y:=[b1,b2,b8]) (by intro j hj;simp at hj ⊢;omega);refine CN fun _ _ ga l93 g E=>?_;have hO:=Uj hO;have kzz:=Uj kzz;have h:=Ui h;have hOo:=hO;refine Xx O Zc Zt O (Zd O) hO (Zd O) O E.g0.row (Ql kzz qzz (by intro j hj;simp at hj ⊢;omega) (fun j hj=>.inr (by have:=hOlt j hj;omega))) (by simp;omega) (by have:=g.size;omega) ⟨by have:=g.size;omega,by have q1:=E.g5.lt;have q2:=E.g4.lt;have q8:=E.g3.lt;have q93:=E.g0.lt;simp;omega⟩ ?_;intro a94 c94 w94 hO hg94;replace E:=E.sel [true,false,false,true,true,true];replace E:=E.keepX hg94 hOo.ne (by simp [selB]);have g:=Ww g hg94 (fun k hk=>hOo.ge k hk);have h:=h.keepO hg94 hOo (by omega);refine AS fun _ ga Ca g E=>?_;have h:=Ub h;have hO:=Ue hO;refine AU ?_;refine SK [9,1,2,3,4,5,8,54,55] ?_;refine Ze (fun a ha=>?_);have hO:=hO.sub (Y:=[b1,b2,b8]) (by intro j hj;simp at hj ⊢;omega);exact ⟨i+1,ha,⟨⟨h5,by rw [ea,ed];exact h,_,E.g1,by rw [ea,ed];exact hO⟩,g⟩,(Zs (blkE E.g3) (Zs (blkE E.g2) (Zz _))),by omega⟩;replace h7:(Zb F i).kind≠6:=of_decide_eq_false h7;refine IF (fun h8=>?_) fun h8=>?_;replace h8:(Zb F i).kind=4:=of_decide_eq_true h8;have ed:dclR F (Zb F i) (dclA F (namA F rs0 F.kids.length) i).2=funR F (Zb F i) (dclA F (namA F rs0 F.kids.length) i).2:=by unfold dclR;rw [Wdh h6,Wdh h7,Weh h8];rfl
 refine AU ?_;have hOlt:=hO.lt;refine AU ?_;refine CL (Xqg [b1,b2,b8,b10,b11] H h8 hdp h hkid (by omega) (E.ltm (by simp [selB])) g.size) ?_;rintro _ _ ⟨⟨p89,c89,rfl,q89,k89⟩,h,ga⟩;refine RC fun g E=>?_;have hcell:=hcell.gt ga hDp;have k69:=Ul k69;have hO:=hO.gt ga rfl;refine AS fun _ ga Ca g E=>?_;have h:=Ub h;have hcell:=Uh hcell;have k69:=Ua k69;have k89:=Ua k89;have hO:=Ue hO;refine AU ?_;first|have kzz:=k89|have kzz:=k69
 first|have qzz:=q89|have qzz:=q69
 have hO:=hO.sub (Y:=[b1,b2,b8]) (by intro j hj;simp at hj ⊢;omega);refine CN fun _ _ ga l93 g E=>?_;have hO:=Uj hO;have kzz:=Uj kzz;have h:=Ui h;have hOo:=hO;refine Xx O Zc Zt O (Zd O) hO (Zd O) O E.g0.row (Ql kzz qzz (by intro j hj;simp at hj ⊢;omega) (fun j hj=>.inr (by have:=hOlt j hj;omega))) (by simp;omega) (by have:=g.size;omega) ⟨by have:=g.size;omega,by have q1:=E.g5.lt;have q2:=E.g4.lt;have q8:=E.g3.lt;have q93:=E.g0.lt;simp;omega⟩ ?_;intro a94 c94 w94 hO hg94;replace E:=E.sel [true,false,false,true,true,true];replace E:=E.keepX hg94 hOo.ne (by simp [selB]);have g:=Ww g hg94 (fun k hk=>hOo.ge k hk);have h:=h.keepO hg94 hOo (by omega);refine AS fun _ ga Ca g E=>?_;have h:=Ub h;have hO:=Ue hO;refine AU ?_;refine SK [9,1,2,3,4,5,8,54,55] ?_;refine Ze (fun a ha=>?_);have hO:=hO.sub (Y:=[b1,b2,b8]) (by intro j hj;simp at hj ⊢;omega);exact ⟨i+1,ha,⟨⟨h5,by rw [ea,ed];exact h,_,E.g1,by rw [ea,ed];exact hO⟩,g⟩,(Zs (blkE E.g3) (Zs (blkE E.g2) (Zz _))),by omega⟩;replace h8:(Zb F i).kind≠4:=of_decide_eq_false h8;have ed:dclR F (Zb F i) (dclA F (namA F rs0 F.kids.length) i).2=(plainT (Zb F i),(dclA F (namA F rs0 F.kids.length) i).2):=by unfold dclR;rw [Wdh h6,Wdh h7,Wdh h8];rfl
 refine AU ?_;first|have kzz:=k89|have kzz:=k69
 first|have qzz:=q89|have qzz:=q69
 have hO:=hO.sub (Y:=[b1,b2,b8]) (by intro j hj;simp at hj ⊢;omega);refine CN fun _ _ ga _ g E=>?_;have hO:=Uj hO;have kzz:=Uj kzz;have h:=Ui h;have hOo:=hO;refine Xx O Zc Zt O (Zd O) hO (Zd O) O E.g0.row (Ql kzz qzz (by intro j hj;simp at hj ⊢;omega) (fun j hj=>.inr (by have:=hOlt j hj;omega))) (by simp;omega) (by have:=g.size;omega) ⟨by have:=g.size;omega,by have q1:=E.g5.lt;have q2:=E.g4.lt;have q8:=E.g3.lt;have q93:=E.g0.lt;simp;omega⟩ ?_;intro a94 c94 w94 hO hg94;replace E:=E.sel [true,false,false,true,true,true];replace E:=E.keepX hg94 hOo.ne (by simp [selB]);have g:=Ww g hg94 (fun k hk=>hOo.ge k hk);have h:=h.keepO hg94 hOo (by omega);refine AS fun _ ga Ca g E=>?_;have h:=Ub h;have hO:=Ue hO;refine AU ?_;refine SK [9,1,2,3,4,5,8,54,55] ?_;refine Ze (fun a ha=>?_);have hO:=hO.sub (Y:=[b1,b2,b8]) (by intro j hj;simp at hj ⊢;omega);exact ⟨i+1,ha,⟨⟨h5,by rw [ea,ed];exact h,_,E.g1,by rw [ea,ed];exact hO⟩,g⟩,(Zs (blkE E.g3) (Zs (blkE E.g2) (Zz _))),by omega⟩;replace h5:i=F.kids.length:=by simp only [decide_eq_false_iff_not] at h5;omega
 subst h5;refine AU ?_;refine CL (Yqa F _ _ _ 4 [109,97,105,110] hk0 hcn) ?_;rintro _ _ ⟨⟨p98,c98,rfl,hk98⟩,ga⟩;refine RC fun g E=>?_;have h:=Uk h;have hO:=Uk hO;refine AN fun _ _ ga _ g E=>?_;have hO:=Uj hO;have h:=Ui h;have hk98:=Ui hk98;refine AS fun _ ga Ca g E=>?_;have h:=Ub h;have hk98:=Ud hk98;have hO:=Ue hO;refine IF (fun h9=>?_) fun h9=>?_;have hS:refS F=failS 0 5 (dclA F (namA F rs0 F.kids.length) F.kids.length).2:=by unfold refS Xcf;rw [h9];rfl
 refine AU ?_;refine CL (Wi 0 5 h) ?_;rintro _ _ ⟨rfl,h,ga⟩;refine RC fun g E=>?_;have hO:=hO.gt ga rfl;refine AU ?_;rw [← hS] at h;obtain ⟨fv,sv,sn,h⟩:=h;refine IF (fun h10=>?_) fun h10=>?_;have er:refCheck F=(nd0,(refS F).ea,(refS F).ee):=by unfold refCheck;rw [hv,show decide ((refS F).ee=0)=false by simpa using h10];rfl
 refine AU ?_;refine Xu (rowR (some b2)) [3,3,3,3,0,3,3,3,0,1,3,3] [0,0,2,6,14,0,32,96,224,1,543,2047] mix (by kernel_rfl) [0,1,2,3,4,5,6,7,8,9,10,11] O ?_;have g:=gtd g;replace E:=E.dr;have h:=h.grow (G.drew _);refine Zx 0 O O (fun _=>Uv [_,_,_,_,_,_,_,_,_] Zt O Xp (Vk) O) (Zx 1 O O (fun _=>Zl (Zd O)) (Zx 2 O O (fun _=>Jt (Zd O)) (Zx 3 O O (fun _=>Zn Qj (Zd O)) (Wh 4 O O (fun w1 hx=>Zw Yh (Zd O) (fun _=>(h.B.keep hx (by intro q;first|(injection q with q;omega)|cases q)).at_ O)) (Zx 5 O O (fun _=>Zl (Zd O)) (Zx 6 O O (fun _=>Jt (Zd O)) (Zx 7 O O (fun _=>Zn Un (Zd O)) (Wh 8 O O (fun w1 hx=>Zw Woa (Zd O) (fun _=>(h.B.keep hx (by intro q;first|(injection q with q;omega)|cases q)).at_ O)) (Zu 9 O O ?_)))))))));refine Zv (L':=[10,11]) [3,3,3,3,0,3,3,3,0,2,3,3] O O O ?_;refine AS fun _ hgS11 _ g E=>?_;refine Yj (hgS11) ?_
 refine Zx 10 O O (fun _=>Yu (Zd O)) (Zx 11 O O (fun _=>Yu (Zd O)) (Upa [(1,_,_),(2,_,_),(3,_,_),(4,_,_),(5,_,_),(8,_,_),(9,_,_),(12,_,_),(13,_,_),(54,_,_),(55,_,_),(56,_,_),(57,_,_),(58,_,_),(59,_,_),(60,_,_),(96,_,_),(97,_,_),(98,_,_),(99,_,_),(100,_,_),(101,_,_),(102,_,_),(103,_,_),(124,_,_),(125,_,_),(126,_,_),(127,_,_),(128,_,_),(129,_,_),(130,_,_),(131,_,_),(132,_,_),(133,_,_),(134,_,_),(135,_,_),(136,_,_),(137,_,_)] (Za O (Za O (Za O (Za O (Za O (Za O (Za O (Za O (Za O (Za O (Za O (Za O (Za O (Za O (Za O (Za O (Za O (Za O (Za O (Za O (Za O (Za O (Za O (Za O (Za O (Za O (Za O (Za O (Za O (Za O (Za O (Za O (Za O (Za O (Za O (Za O (Za O (Za O (Zo _))))))))))))))))))))))))))))))))))))))) (Qp (kq (Xe (Ut (rs:=[.cell 2 26,.tmp 3,.tmp 4]) (vs:=[_,_,_]) O O (Qy O Zh O (E.g2.row) (Qm O (Qm O (Wy)))) O ?_))))));rw [er];exact ⟨⟨_,rfl,Zkc nd0 _ _ rfl⟩,Zyd (G.refl w) g (by omega)⟩;have er:refCheck F=(refA F,0,0):=by unfold refCheck;rw [hv,show decide ((refS F).ee=0)=true by simpa using h10];rfl
 refine Yb (kq (Zi (Zk (Ve Zh O O E.g1.row (AS fun _ ga Ca g E=>?_)))));have hO:=Ue hO;refine Yr O (Yr O (Ze (kq (Xe (Ut (rs:=[.cell 2 26,.tmp 3,.tmp 4]) (vs:=[_,_,_]) O O (Qy O Zh O (E.g2.row) (Qm O (Qm O (Wy)))) O ?_)))));rw [er];exact ⟨⟨_,rfl,Zr (t:=annT F _ ty0) rfl hO.kd⟩,Zyd (G.refl w) g (by omega)⟩;have hq:0≤(findD F 4 [109,97,105,110]).2:=by have:=of_decide_eq_false h9;omega
 have hl4:=H.l4 hq;obtain ⟨eg,pg,cg,hc0,hkg⟩:=Yl hk98 (i:=0) (by omega);obtain ⟨_,ph,ch,hc1,hkh⟩:=Yl hk98 (i:=1) (by omega);have hDf:pb p98<n0:=Wca hk98 (show 0<(findD F 4 [109,97,105,110]).1.kids.length by omega);refine Zi (Zk (Yf Zg O (Yp Zf O (E.g0.at_ O) (Ji Zc O O (by omega) eg (Yf Zg O (Yp Zf O (hc0.one (i:=4) O) (Xha Zc O (Xve O O (Zp O (Zj O O O (fun _=>Zn Zg (Zd O)) (Yk O O O (Zw Zf (Zm O id) (fun _=>E.g0.at_ O)) (Zj O O O (fun _=>Xb Zc (Zm O id) Xg (fun _=>by omega) (fun _=>eg)) (Zj O O O (fun _=>Zn Xl (Zm O id)) (Yk O O O (Zw Yh (Zm O id) (fun _=>hc1.one (i:=0) O)) (Zj O O O (fun _=>Qvc (Zm O id) Xg) (?_))))))))))))))));refine Zq O (fun _=>Vd (Zd O) (Zm O id)) (Ze (kq (Wn O (fun h11=>?_) (fun h11=>?_))));have hS:refS F=failS (findD F 4 [109,97,105,110]).1.pos 7 (dclA F (namA F rs0 F.kids.length) F.kids.length).2:=by unfold refS Xcf;rw [h9];simp only [cond_false];rw [show (decide (0<((Zb (findD F 4 [109,97,105,110]).1 0).kids.length:Int)) || !decide ((Zb (findD F 4 [109,97,105,110]).1 1).kind=9))=true from h11];rfl
 refine AU ?_;refine CL (Wi (findD F 4 [109,97,105,110]).1.pos 7 h) ?_;rintro _ _ ⟨rfl,h,ga⟩;refine RC fun g E=>?_;have hc0:=hc0.gt ga hDf;have hc1:=hc1.gt ga hDf;have hO:=hO.gt ga rfl;refine AU ?_;rw [← hS] at h;obtain ⟨fv,sv,sn,h⟩:=h;refine IF (fun h12=>?_) fun h12=>?_;have er:refCheck F=(nd0,(refS F).ea,(refS F).ee):=by unfold refCheck;rw [hv,show decide ((refS F).ee=0)=false by simpa using h12];rfl
 refine AU ?_;refine Xu (rowR (some b2)) [3,3,3,3,0,3,3,3,0,1,3,3] [0,0,2,6,14,0,32,96,224,1,543,2047] mix (by kernel_rfl) [0,1,2,3,4,5,6,7,8,9,10,11] O ?_;have g:=gtd g;replace E:=E.dr;have h:=h.grow (G.drew _);have hc0:=hc0.grow (G.drew _);have hc1:=hc1.grow (G.drew _);refine Zx 0 O O (fun _=>Uv [_,_,_,_,_,_,_,_,_] Zt O Xp (Vk) O) (Zx 1 O O (fun _=>Zl (Zd O)) (Zx 2 O O (fun _=>Jt (Zd O)) (Zx 3 O O (fun _=>Zn Qj (Zd O)) (Wh 4 O O (fun w1 hx=>Zw Yh (Zd O) (fun _=>(h.B.keep hx (by intro q;first|(injection q with q;omega)|cases q)).at_ O)) (Zx 5 O O (fun _=>Zl (Zd O)) (Zx 6 O O (fun _=>Jt (Zd O)) (Zx 7 O O (fun _=>Zn Un (Zd O)) (Wh 8 O O (fun w1 hx=>Zw Woa (Zd O) (fun _=>(h.B.keep hx (by intro q;first|(injection q with q;omega)|cases q)).at_ O)) (Zu 9 O O ?_)))))))));refine Zv (L':=[10,11]) [3,3,3,3,0,3,3,3,0,2,3,3] O O O ?_;refine AS fun _ hgS13 _ g E=>?_;have hc0:=Vz hc0 hgS13 (by omega);have hc1:=Vz hc1 hgS13 (by omega);refine Yj (hgS13) ?_;refine Zx 10 O O (fun _=>Yu (Zd O)) (Zx 11 O O (fun _=>Yu (Zd O)) (TK [1,2,3,4,5,8,9,12,13,54,55,56,57,58,59,60,96,97,98,99,100,101,102,105,106,107,108,109,110,111,112,113,114,115,116,117,118,119,120,121,122,124,125,126,127,128,129,130,131,132,133,134,135,136,137] (Qp (kq (Xe (Ut (rs:=[.cell 2 26,.tmp 3,.tmp 4]) (vs:=[_,_,_]) O O (Qy O Zh O (E.g2.row) (Qm O (Qm O (Wy)))) O ?_))))));rw [er];exact ⟨⟨_,rfl,Zkc nd0 _ _ rfl⟩,Zyd (G.refl w) g (by omega)⟩;have er:refCheck F=(refA F,0,0):=by unfold refCheck;rw [hv,show decide ((refS F).ee=0)=true by simpa using h12];rfl
 refine AS fun _ ga Ca g E=>?_;have hc0:=Uh hc0;have hc1:=Uh hc1;have hO:=Ue hO;refine RTN ?_;rw [er];exact ⟨⟨_,rfl,Zr (t:=annT F _ ty0) rfl hO.kd⟩,Zyd (G.refl w) g (by omega)⟩;have hS:refS F=(dclA F (namA F rs0 F.kids.length) F.kids.length).2:=by unfold refS Xcf;rw [h9];simp only [cond_false];rw [show (decide (0<((Zb (findD F 4 [109,97,105,110]).1 0).kids.length:Int)) || !decide ((Zb (findD F 4 [109,97,105,110]).1 1).kind=9))=false from h11];rfl
 refine AU ?_;rw [← hS] at h;obtain ⟨fv,sv,sn,h⟩:=h;refine IF (fun h13=>?_) fun h13=>?_;have er:refCheck F=(nd0,(refS F).ea,(refS F).ee):=by unfold refCheck;rw [hv,show decide ((refS F).ee=0)=false by simpa using h13];rfl
 refine AU ?_;refine Xu (rowR (some b2)) [3,3,3,3,0,3,3,3,0,1,3,3] [0,0,2,6,14,0,32,96,224,1,543,2047] mix (by kernel_rfl) [0,1,2,3,4,5,6,7,8,9,10,11] O ?_;have g:=gtd g;replace E:=E.dr;have h:=h.grow (G.drew _);have hc0:=hc0.grow (G.drew _);have hc1:=hc1.grow (G.drew _);refine Zx 0 O O (fun _=>Uv [_,_,_,_,_,_,_,_,_] Zt O Xp (Vk) O) (Zx 1 O O (fun _=>Zl (Zd O)) (Zx 2 O O (fun _=>Jt (Zd O)) (Zx 3 O O (fun _=>Zn Qj (Zd O)) (Wh 4 O O (fun w1 hx=>Zw Yh (Zd O) (fun _=>(h.B.keep hx (by intro q;first|(injection q with q;omega)|cases q)).at_ O)) (Zx 5 O O (fun _=>Zl (Zd O)) (Zx 6 O O (fun _=>Jt (Zd O)) (Zx 7 O O (fun _=>Zn Un (Zd O)) (Wh 8 O O (fun w1 hx=>Zw Woa (Zd O) (fun _=>(h.B.keep hx (by intro q;first|(injection q with q;omega)|cases q)).at_ O)) (Zu 9 O O ?_)))))))));refine Zv (L':=[10,11]) [3,3,3,3,0,3,3,3,0,2,3,3] O O O ?_;refine AS fun _ hgS15 _ g E=>?_;have hc0:=Vz hc0 hgS15 (by omega);have hc1:=Vz hc1 hgS15 (by omega);refine Yj (hgS15) ?_;refine Zx 10 O O (fun _=>Yu (Zd O)) (Zx 11 O O (fun _=>Yu (Zd O)) (TK [1,2,3,4,5,8,9,12,13,54,55,56,57,58,59,60,96,97,98,99,100,101,102,105,106,107,108,109,110,111,112,113,114,115,116,117,118,119,124,125,126,127,128,129,130,131,132,133,134,135,136,137] (Qp (kq (Xe (Ut (rs:=[.cell 2 26,.tmp 3,.tmp 4]) (vs:=[_,_,_]) O O (Qy O Zh O (E.g2.row) (Qm O (Qm O (Wy)))) O ?_))))));rw [er];exact ⟨⟨_,rfl,Zkc nd0 _ _ rfl⟩,Zyd (G.refl w) g (by omega)⟩;have er:refCheck F=(refA F,0,0):=by unfold refCheck;rw [hv,show decide ((refS F).ee=0)=true by simpa using h13];rfl
 refine AS fun _ ga Ca g E=>?_;have hc0:=Uh hc0;have hc1:=Uh hc1;have hO:=Ue hO;refine RTN ?_;rw [er];exact ⟨⟨_,rfl,Zr (t:=annT F _ ty0) rfl hO.kd⟩,Zyd (G.refl w) g (by omega)⟩
def fnsT(t:Nd):List Nd:=bif decide ((250:Int)<(count t:Nat)) then [] else bif decide ((refCheck t).2.2=0) then allT (refCheck t).1 else []
theorem Uca(t:Nd)(v:Value)(D:Nat→Prop)(w:World)(hk:Kd w D t.kids v)(hc:count t≤1048576)(hcr:count t≤250→count (refCheck t).1≤1000000):Ret PP Utc #[ndV t v] w fun r w'=>Kd w' (fun _=>True) (fnsT t) r∧G w w':=by
 have g:=G.refl w;refine WK 19 [0] Xqc ?_;refine BM fun _ _ _ _ g E=>?_;refine AU ?_;refine CP (Vcf t v D _ (hk.grow g) (by omega)) (fun w7 g7=>?_);have g:=g.trans g7;replace E:=E.grow g7;refine IF (fun h1=>?_) fun h1=>?_;replace h1:decide ((250:Int)<(count t:Nat))=true:=h1;have e:fnsT t=[]:=by unfold fnsT;rw [h1];rfl
 refine RTN ?_;rw [e];exact ⟨Qta _ _,g⟩;replace h1:decide ((250:Int)<(count t:Nat))=false:=h1;have h1b:=of_decide_eq_false h1;refine AU ?_;refine CL (Upf t v D _ (hk.grow g) (by omega)) ?_;rintro v11 w11 ⟨⟨u11,rfl,p11,c11,rfl,hk11⟩,g11⟩;refine ⟨fun _=>g11,?_⟩;have g:=g.trans g11;have hk11:Kd w11 (fun k=>k<w11.heap.size) (refCheck t).1.kids (.slice p11 (refCheck t).1.kids.length c11):=Kd.mono hk11 fun k _ h=>h;replace E:=E.grow g11;refine AN fun _ _ N3 _ g E=>?_;have hk11:=hk11.grow (N3.g);refine AS fun _ ga _ g E=>?_;have hk11:=hk11.keep ga (fun k hk _ he=>by injection he with he;have hk:k<w11.heap.size:=hk;have:=N3.at_;omega);refine IF (fun h2=>?_) fun h2=>?_;have e:fnsT t=[]:=by unfold fnsT;rw [h1,show decide ((refCheck t).2.2=0)=false by simpa using h2];rfl
 refine RTN ?_;rw [e];exact ⟨Qta _ _,g⟩;have e:fnsT t=allT (refCheck t).1:=by unfold fnsT;rw [h1,show decide ((refCheck t).2.2=0)=true by simpa using h2];rfl
 refine AU ?_;refine CL (Vtf (refCheck t).1 _ _ _ hk11 (hcr (by omega))) ?_;rintro _ _ ⟨hk18,ga⟩;refine RC fun g E=>?_;refine RTN ?_;rw [e];exact ⟨hk18.mono fun _ _ _=>trivial,g⟩
def UseOk(C:List (List Dc))(x:Nd):Prop:=∃ (n m:Nat) (l:List Dc) (d:Dc),x.up=n∧x.num=m∧n<C.length∧C[C.length-1-n]? = some l∧l[m]? = some d∧d.name=x.text∧d.typ=x.ty
inductive Us:List (List Dc)→Nd→Prop
  | mk {C:List (List Dc)} {x:Nd}:(useB x=true→UseOk C x)→x.kind≠4→(dclD x≠[]→0<x.kids.length)→(x.kind=38→∀ d∈locL x,d.par=false)→(∀ k∈x.kids,Us (bif decide (x.kind=38) then C++[locL x] else C) k)→Us C x
def Ext(C C':List (List Dc)):Prop:=C.length=C'.length∧∀ (i:Nat) (l:List Dc),C[i]? = some l→∃ l':List Dc,C'[i]? = some l'∧l <+: l'
theorem Xqf{α:Type}{l l':List α}(h:l <+: l'){m:Nat}{d:α}(hm:l[m]? = some d):l'[m]? = some d:=by
 obtain ⟨r,rfl⟩:=h;have:=(List.getElem?_eq_some_iff.1 hm).1;rw [List.getElem?_append_left this];exact hm
theorem UseOk.mono{C C':List (List Dc)}{x:Nd}(h:UseOk C x)(e:Ext C C'):UseOk C' x:=by
 obtain ⟨n,m,l,d,h1,h2,h3,h4,h5,h6,h7⟩:=h;obtain ⟨l',k1,k2⟩:=e.2 _ _ h4;exact ⟨n,m,l',d,h1,h2,e.1▸h3,e.1▸k1,Xqf k2 h5,h6,h7⟩
theorem Ext.app{C C':List (List Dc)}(e:Ext C C')(a:List Dc):Ext (C++[a]) (C'++[a]):=by
 refine ⟨by rw [List.length_append,List.length_append,e.1],fun i l h=>?_⟩;by_cases hi:i<C.length;rw [List.getElem?_append_left hi] at h;rw [List.getElem?_append_left (e.1▸hi)];exact e.2 i l h;rw [List.getElem?_append_right (by omega)] at h;rw [List.getElem?_append_right (by have:=e.1;omega),← e.1];exact ⟨l,h,List.prefix_refl _⟩
theorem Us.mono{C:List (List Dc)}{x:Nd}(h:Us C x):∀ {C':List (List Dc)},Ext C C'→Us C' x:=by
 induction h with
 | @mk C x h1 h2 h0 h3 h4 ih =>
  intro C' e;refine .mk (fun hu=>(h1 hu).mono e) h2 h0 h3 fun k hk=>?_;refine ih k hk ?_;cases decide (x.kind=38);exact e;exact e.app _
theorem Ulc{B:List (List Dc)}{T d:List Dc}:Ext (B++[T]) (B++[T++d]):=by
 refine ⟨by rw [List.length_append,List.length_append];rfl,fun i l h=>?_⟩;by_cases hi:i<B.length;rw [List.getElem?_append_left hi] at h;rw [List.getElem?_append_left hi];exact ⟨l,h,List.prefix_refl _⟩;rw [List.getElem?_append_right (by omega)] at h;rw [List.getElem?_append_right (by omega)]
 cases hj:i-B.length with
 | zero=>rw [hj] at h;injection h with h;subst h;exact ⟨_,rfl,d,rfl⟩
 | succ j=>rw [hj] at h;cases h
structure EvD (B:List (List Dc)) (T:List Dc) (S:CSt):Prop where
  sc:Sc S
  lv:S.level=B.length
  nx:S.next.take (S.level+1)=(B++[T]).map List.length
  vr:∀ v∈S.vars,∃ l d,(B++[T])[v.level]? = some l∧l[v.num]? = some d∧d.name=v.name∧d.typ=v.typ
section
variable {B:List (List Dc)} {T:List Dc} {S S':CSt}
theorem EvD.same(h:EvD B T S)(h1:S'.vars=S.vars)(h2:S'.scope=S.scope)(h3:S'.level=S.level)(h4:S'.next=S.next):EvD B T S' :=
 ⟨fun v hv=>by rw [h2];exact h.sc v (h1▸hv),h3.trans h.lv,by rw [h3,h4];exact h.nx,fun v hv=>h.vr v (h1▸hv)⟩
theorem EvD.fail(h:EvD B T S)(a e:Int):EvD B T (failS a e S):=by
 unfold failS;cases decide (S.ee=0);exact h;exact h.same rfl rfl rfl rfl
theorem EvD.failu(h:EvD B T S)(b:Bool)(a e:Int):EvD B T (failU b a e S):=by
 cases b;exact h.fail a e;exact h
theorem EvD.cond{S1 S2:CSt}{b:Bool}(h:EvD B T S1)(k:EvD B T S2):EvD B T (bif b then S1 else S2):=by cases b <;> assumption
theorem EvD.pointer(F n:Nd)(h:EvD B T S):EvD B T (pointerS F n S):=(h.failu _ _ _).cond h
theorem EvD.local(F n:Nd)(h:EvD B T S):EvD B T (localS F n S):=(h.pointer F n).failu _ _ _
theorem EvD.open(h:EvD B T S):EvD B T (openS S):=⟨Ukc h.sc,h.lv,h.nx,h.vr⟩
theorem EvD.shut(h:EvD B T S)(hs:Sc (shutS S)):EvD B T (shutS S):=⟨hs,h.lv,h.nx,fun v hv=>h.vr v (by
 have hv:v∈dropV S.scope S.vars:=hv;unfold dropV at hv;exact List.mem_reverse.1 ((List.dropWhile_sublist _).subset (List.mem_reverse.1 hv)))⟩
theorem EvD.num(h:EvD B T S):declN S=T.length:=by
 unfold declN
 have e:(S.next.take (S.level+1))[S.level]? = some T.length:=by
  rw [h.nx,h.lv];simp
 rw [List.getElem?_take] at e;split at e;rw [List.getD_eq_getElem?_getD,e];rfl;cases e
theorem EvD.decl(h:EvD B T S)(s:List UInt8)(y:Ty)(a:Int)(p:Bool):EvD B (T++[⟨s,y,p⟩]) (declS s y a S):=by
 obtain ⟨q1,q2,q3,q4⟩:(failU (!dupV S s) a 6 S).vars=S.vars∧(failU (!dupV S s) a 6 S).scope=S.scope∧(failU (!dupV S s) a 6 S).level=S.level∧(failU (!dupV S s) a 6 S).next=S.next:=by
  unfold failU failS;cases (!dupV S s);cases decide (S.ee=0) <;> exact ⟨rfl,rfl,rfl,rfl⟩
  exact ⟨rfl,rfl,rfl,rfl⟩
 have hl:(declS s y a S).level=S.level:=q3;refine ⟨(Ujc s y a S).sc h.sc,hl.trans h.lv,?_,fun v hv=>?_⟩;rw [hl];show (S.next.set S.level (declN S+1)).take (S.level+1)=_;rw [List.take_set,h.nx,h.num,h.lv];simp;have hv:v∈S.vars++[⟨s,y,declN S,S.level,S.scope⟩]:=hv;rcases List.mem_append.1 hv with hv|hv;obtain ⟨l,d,h1,h2,h3,h4⟩:=h.vr v hv;obtain ⟨l',k1,k2⟩:=(Ulc (B:=B) (T:=T) (d:=[⟨s,y,p⟩])).2 _ _ h1;exact ⟨l',d,k1,Xqf k2 h2,h3,h4⟩;rw [List.mem_singleton.1 hv];refine ⟨T++[⟨s,y,p⟩],⟨s,y,p⟩,?_,?_,rfl,rfl⟩;show (B++[_])[S.level]? = _;rw [h.lv];simp;show (T++_)[declN S]? = _;rw [h.num];simp
theorem EvD.lit(h:EvD B T S):EvD (B++[T]) [] (litS S):=by
 have hl:S.level+1=(B++[T]).length:=by rw [List.length_append,h.lv];rfl
 refine ⟨h.sc,hl,?_,fun v hv=>?_⟩;show (S.next.take (S.level+1)++[0]).take (S.level+1+1)=_;rw [h.nx,List.take_of_length_le (by rw [List.length_append,List.length_map,← hl];exact Nat.le_refl _),List.map_append (l₁:=B++[T])];rfl;obtain ⟨l,d,h1,h2⟩:=h.vr v hv;refine ⟨l,d,?_,h2⟩;rw [List.getElem?_append_left (List.getElem?_eq_some_iff.1 h1).1];exact h1
theorem EvD.back{d:List Dc}{r:Ty}(h:EvD B T S)(k:EvD (B++[T]) d S')(hv:Vs (litS S) S'):EvD B T { S' with level:=S'.level-1,result:=r }:=by
 have hl:S'.level-1=B.length:=by rw [k.lv,List.length_append];rfl
 refine ⟨fun v hx=>?_,hl,?_,fun v hx=>h.vr v (hv.vars▸hx:v∈(litS S).vars)⟩;have:=h.sc v (hv.vars▸hx:v∈(litS S).vars);show v.scope≤S'.scope;rw [hv.scope];exact this;show S'.next.take (S'.level-1+1)=_;have e:=congrArg (List.take (S'.level-1+1)) k.nx;rw [List.take_take] at e;rw [Nat.min_eq_left (by omega)] at e;rw [e,hl,List.map_append,List.take_append_of_le_length (by simp)];rw [List.take_of_length_le (by simp)]
end
def Dcl(B:List (List Dc))(T:List Dc)(c:Nd×CSt):Prop:=∃ d,(∀ x∈d,x.par=false)∧EvD B (T++d) c.2∧Us (B++[T++d]) c.1∧ownD c.1=d
def Rs(B:List (List Dc))(T:List Dc)(c:Nd×CSt):Prop:=EvD B T c.2∧Us (B++[T]) c.1∧ownD c.1=[]
def Rl(B:List (List Dc))(T:List Dc)(ks:List Nd)(S:CSt):Prop:=∃ d,(∀ x∈d,x.par=false)∧EvD B (T++d) S∧(∀ k∈ks,Us (B++[T++d]) k)∧ks.flatMap ownD=d
def Re(B:List (List Dc))(T:List Dc)(ks:List Nd)(S:CSt):Prop:=EvD B T S∧(∀ k∈ks,Us (B++[T]) k)∧ks.flatMap ownD=[]
def notD(k:Int):Bool:=!anyK [3,4,6,11,38] k
section
variable {B:List (List Dc)} {T:List Dc} {S S':CSt} {ks:List Nd} {c:Nd×CSt}
theorem Rs.rd(h:Rs B T c):Dcl B T c:=⟨[],(fun _ h=>by cases h),by rw [List.append_nil];exact h.1,by rw [List.append_nil];exact h.2.1,h.2.2⟩
theorem Re.rl(h:Re B T ks S):Rl B T ks S:=⟨[],(fun _ h=>by cases h),by rw [List.append_nil];exact h.1,by rw [List.append_nil];exact h.2.1,h.2.2⟩
theorem Qrc(h:EvD B T S):Re B T [] S:=⟨h,(fun _ h=>by cases h),rfl⟩
theorem Xrg(h:EvD B T S):Rl B T [] S:=(Qrc h).rl
theorem Re.snoc(h:Re B T ks S)(k:EvD B T S→Rs B T c):Re B T (ks++[c.1]) c.2:=by
 obtain ⟨h1,h2,h3⟩:=h;obtain ⟨k1,k2,k3⟩:=k h1;refine ⟨k1,fun x hx=>?_,by rw [List.flatMap_append,h3];simp [k3]⟩;rcases List.mem_append.1 hx with hx|hx;exact h2 x hx;rw [List.mem_singleton.1 hx];exact k2
theorem Rl.snoc(h:Rl B T ks S)(k:∀ T',EvD B T' S→Dcl B T' c):Rl B T (ks++[c.1]) c.2:=by
 obtain ⟨d,h0,h1,h2,h3⟩:=h;obtain ⟨d',k0,k1,k2,k3⟩:=k _ h1;rw [List.append_assoc] at k1 k2;refine ⟨d++d',fun x hx=>(List.mem_append.1 hx).elim (h0 x) (k0 x),k1,fun x hx=>?_,by rw [List.flatMap_append,h3];simp [k3]⟩;rcases List.mem_append.1 hx with hx|hx;have:=(h2 x hx).mono (Ulc (d:=d'));rwa [List.append_assoc] at this;rw [List.mem_singleton.1 hx];exact k2
theorem Re.up(h:Re B T ks S)(k:EvD B T S→EvD B T S'):Re B T ks S':=⟨k h.1,h.2⟩
theorem Rl.up(h:Rl B T ks S)(k:∀ T',EvD B T' S→EvD B T' S'):Rl B T ks S':=by
 obtain ⟨d,h0,h1,h2⟩:=h;exact ⟨d,h0,k _ h1,h2⟩
theorem Dcl.up(h:Dcl B T c)(k:∀ T',EvD B T' c.2→EvD B T' S'):Dcl B T (c.1,S'):=by
 obtain ⟨d,h0,h1,h2⟩:=h;exact ⟨d,h0,k _ h1,h2⟩
theorem Rs.up(h:Rs B T c)(k:EvD B T c.2→EvD B T S'):Rs B T (c.1,S'):=⟨k h.1,h.2⟩
theorem Rl.one(h:Dcl B T c):Rl B T [c.1] c.2:=by
 obtain ⟨d,h0,h1,h2,h3⟩:=h;exact ⟨d,h0,h1,fun k hk=>by rw [List.mem_singleton.1 hk];exact h2,by simp [h3]⟩
theorem Re.one(h:Rs B T c):Re B T [c.1] c.2:=⟨h.1,fun k hk=>by rw [List.mem_singleton.1 hk];exact h.2.1,by simp [h.2.2]⟩
theorem Jla{k:Int}(h:notD k=true):(k≠3∧k≠6∧k≠11)∧k≠4∧k≠38:=by
 refine ⟨⟨?_,?_,?_⟩,?_,?_⟩ <;> (intro e;subst e;revert h;decide)
theorem Vid{x:Nd}(h:notD x.kind=true):dclD x=[]:=by
 obtain ⟨⟨h1,h2,h3⟩,_⟩:=Jla h;unfold dclD;rw [Wdh h1,Wdh h2,Wdh h3];rfl
theorem Vqb{x:Nd}(h:notD x.kind=true):ownD x=x.kids.flatMap ownD:=by
 rw [Yid,Vid h,Wdh (Jla h).2.2];rfl
theorem Jic{C:List (List Dc)}{x:Nd}(h:notD x.kind=true)(hr:x.ref≠1)(hk:∀ k∈x.kids,Us C k):Us C x:=by
 refine .mk (fun hu=>?_) (Jla h).2.1 (fun e=>absurd (Vid h) e) (fun e=>absurd e (Jla h).2.2) fun k hm=>?_;unfold useB at hu;simp only [Bool.and_eq_true,decide_eq_true_eq] at hu;exact absurd hu.2 hr;rw [Wdh (Jla h).2.2];exact hk k hm
theorem Rl.ann{n:Nd}{y:Ty}(h:Rl B T ks S)(hn:notD n.kind=true):Dcl B T (annT n ks y,S):=by
 obtain ⟨d,h0,h1,h2,h3⟩:=h;exact ⟨d,h0,h1,Jic (x:=annT n ks y) hn (by show (0:Int)≠1;decide) h2,(Vqb (x:=annT n ks y) hn).trans h3⟩
theorem Re.ann{n:Nd}{y:Ty}(h:Re B T ks S)(hn:notD n.kind=true):Rs B T (annT n ks y,S) :=
 ⟨h.1,Jic (x:=annT n ks y) hn (by show (0:Int)≠1;decide) h.2.1,(Vqb (x:=annT n ks y) hn).trans h.2.2⟩
theorem Vjd{n:Nd}(h:EvD B T S)(hn:notD n.kind=true):Rs B T (clnT n,S) :=
 ⟨h,Jic (x:=clnT n) hn (by show (0:Int)≠1;decide) (fun k hk=>by cases hk),Vqb (x:=clnT n) hn⟩
end
/-! kinds -/
theorem Qpg{t:Nd}(h:stmtB t=true):t.kind=6∨t.kind=11∨notD t.kind=true:=by
 unfold stmtB at h;have h:=(Bool.and_eq_true_iff.1 h).1;unfold stK at h;rw [Xtb] at h;simp only [List.mem_cons,List.not_mem_nil,or_false] at h;rcases h with h|h|h|h|h|h|h|h|h|h|h|h|h|h <;> first|exact .inl h|exact .inr (.inl h)|(exact .inr (.inr (by rw [h];decide)))
theorem Jxb{t:Nd}(h:isTypeB t=true):notD t.kind=true∧t.kids=[]:=by
 refine ⟨?_,List.length_eq_zero_iff.1 (Uug h)⟩;unfold isTypeB at h;cases h1:decide (t.kind=8);rw [h1] at h;cases h2:decide (t.kind=7);rw [h2] at h;cases h;rw [of_decide_eq_true h2];decide;rw [of_decide_eq_true h1];decide
theorem Yuh{B:List (List Dc)}{T:List Dc}{S:CSt}{t:Nd}(h:EvD B T S)(ht:isTypeB t=true):Rs B T (plainT t,S):=by
 obtain ⟨h1,h2⟩:=Jxb ht;rw [Via,h2];exact ⟨h,Jic (x:=.mk t.kind t.text (numS t) t.pos [] ty0 0 0) h1 (by show (0:Int)≠1;decide) (fun k hk=>by cases hk),Vqb (x:=.mk t.kind t.text (numS t) t.pos [] ty0 0 0) h1⟩
theorem Qae(t:Nd):ofF (plainT t)=ofF t:=by
 have e:leafB (plainT t)=leafB t:=by unfold leafB;rw [Vrf]
 unfold ofF;rw [e,Via];rfl
end Go.Rk
