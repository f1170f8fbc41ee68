/- Texts. Conditions: each its own. -/
import Derived.Test.YtmpfjifhkmdbaaaGreatDoorJ02
import Derived.Test.YtmpfjifhkmdbaaaGreatDoorJ06
import Derived.Test.YtmpfjifhkmdbaaaGreatDoorJ03
import Derived.Test.YtmpfjifhkmdbaaaGreatDoorJ05
import Derived.Test.YtmpfjifhkmdbaaaGreatDoorJ04
import Derived.RecoverIn
set_option linter.unusedSimpArgs false
set_option linter.unusedVariables false
set_option maxHeartbeats 16000000
set_option maxRecDepth 100000
open Bool renaming and_eq_true→AA,and_eq_true_iff→Dr,true_and→D4,noConfusion→E6,or_eq_false_iff→Gc
open Go renaming World→Ae,TypeId→AD,PanicEntry→Bf,Operand→Bl,Program→AJ,Value→Aj
open Go.Value renaming slice→CY
open List renaming mem_cons→Bu,length_append→Cj,all_eq_true→CC,mem_cons_of_mem→CR,not_mem_nil→DQ,getElem?_eq_getElem→Ei,take_of_length_le→Eo,getD_eq_getElem?_getD→Ez,map_append→E0,length_map→EY,take_succ_eq_append_getElem→E8,length_take→FI,take_succ_cons→F3,getElem?_eq_none→Gm,mem_of_getElem?→GN
open Nat renaming le_refl→Ao,lt_of_lt_of_le→A2,zero_add→Cq,zero_le→CW,beq→Du,eq_zero_or_pos→Gq
open Decidable renaming decide→Ac
namespace Go.Proofs
end Go.Proofs
namespace Go.Rk
open Go.Proofs
open Go Go.RowKit
theorem sP{t:Nd}(hx:BN t=true)(af:t.k≠24)(ad:t.k≠25)(ae:t.k≠26)(aa:t.k≠38)(ah:t.k≠30)(ag:t.k≠27)(ab:t.k≠28)(ac:t.k≠34):t.k∈([29,31,32,33,35,36,37]:List Int):=by
 have hx:=(Dr.1 hx).1;unfold E7 at hx;rw [OR] at hx;simp only [Bu,DQ,or_false] at hx ⊢;omega
theorem oW{F t:Nd}(HF:MZ F)(hx:BN t=true)(KE:∀ i,i<t.j.length→BN (Aa t i)=true→D1 1000000 F 113 (Aa t i) (Af F (Aa t i)).ex)(KL:t.k=38→D1 1000001 F 57 (Aa t 0) (Af F (Aa t 0)).M)(KK:t.k=30→D1 1000000 F 141 t (Jf t (Av F t))):D1 1000000 F 113 t (Af F t).ex:=by
 intro n0 b TB X r0 S w v N h he hc er hb hn;obtain ⟨p,c,rfl,il,_⟩:=id er;have aa:=er;have jm:=h.lt;have bh:=h.tb;have hs:=h.az;have htb2:∀ j∈TB,j<w.heap.size:=fun j hj=>bh.2 j (bh.1 j hj)
 have az:∀ i,i<t.j.length→CU t i+count (Aa t i)+1≤count t:=fun i hi=>by
  have h1:=IK t (i+1);have h2:=It hi;have h3:CU t (i+1)=CU t i+DT t i:=rfl;omega
 have j5:=ED t;have j0:CU t 1=0+DT t 0:=rfl;have g:=AP.refl (CE X) n0 w;refine JM (m:=254) Tryz.func113 J J [(0,True,_),(1,True,_)] Bp ?_;refine CT fun b3 _ ga _ g E=>?_;have jl:=h;have iv:=ga.H.lt;have h:=Ar h;have aa:=Ar aa;refine A5 fun b4 _ ga _ g E=>?_;have j6:=h;have g9:=ga.H.lt;have h:=Ar h;have aa:=Ar aa;refine Ad ?_;refine AO (Ls t _ _ _) ?_;rintro _ _ ⟨rfl,ga⟩;refine A4 fun g E=>?_;have h:=AV h;have aa:=AV aa;refine A5 fun b5 _ ga _ g E=>?_;have ju:=h;have gq:=ga.H.lt;have h:=Ar h;have aa:=Ar aa;refine Cz fun _ ga Ca g E h=>?_
 have aa:=Co aa;refine Aw (fun h1=>?_) fun h1=>?_
 ·have h1:t.k=24:=AH h1
  have ef:=lN (F:=F) (S:=S) h1;refine Au (Ct Cf J J h.laid.hC.1 (AE Fg J (Df J ET (Ab J) (Ab J) J J E.J J J ?_)));intro jv cg _ BS;have C5:=E.J;replace E:=E.s0 cg BS;have g:=Cw g cg O;have h:=h.C cg C5 O Gl
  refine Cz fun _ ga Ca g E h=>?_
  refine AN ?_;rw [ef];exact ⟨he,BO (t:=AF t [] tInt) rfl (IL _ _),h,g⟩
 have h1:t.k≠24:=CF h1;refine Aw (fun h2=>?_) fun h2=>?_
 ·have h2:t.k=25:=AH h2
  have ef:=wX (F:=F) (S:=S) h2;refine Au (Ct Cf J J h.laid.hC.2.1 (AE Fg J (Df J ET (Ab J) (Ab J) J J E.J J J ?_)));intro jk ct _ BS;have C5:=E.J;replace E:=E.s0 ct BS;have g:=Cw g ct O;have h:=h.C ct C5 O Gl
  refine Cz fun _ ga Ca g E h=>?_
  refine AN ?_;rw [ef];exact ⟨he,BO (t:=AF t [] tBool) rfl (IL _ _),h,g⟩
 have h2:t.k≠25:=CF h2;refine Aw (fun h3=>?_) fun h3=>?_
 ·have h3:t.k=26:=AH h3
  have ef:=Aar (F:=F) (S:=S) h3;refine Au (Ct Cf J J h.laid.hC.2.2.1 (AE Fg J (Df J ET (Ab J) (Ab J) J J E.J J J ?_)));intro jq cz _ BS;have C5:=E.J;replace E:=E.s0 cz BS;have g:=Cw g cz O;have h:=h.C cz C5 O Gl
  refine Cz fun _ ga Ca g E h=>?_
  refine AN ?_;rw [ef];exact ⟨he,BO (t:=AF t [] tNil) rfl (IL _ _),h,g⟩
 have h3:t.k≠26:=CF h3;refine Aw (fun h4=>?_) fun h4=>?_
 ·have h4:t.k=38:=AH h4
  obtain ⟨hl,z0⟩:=Q3 h4 hx;have be:=az 0 O;have ef:=kY (F:=F) (S:=S) h4 hl;obtain ⟨hpe,hv,gv,hcell,ad⟩:=Ba aa (i:=0) O;refine Ad ?_;refine EL J nP J J J (Adx (KL h4) [b3,b4,b5] h he hc ad hb O (E.Q Br) g.size) ((fun ch w' hz=>Dm.pass hz (by rw [ef];exact Bg.refl _) (Ao _) g)) ?_;rintro j3 js ⟨⟨j4,ji,rfl,f5,a7⟩,ec,h,fe⟩;refine EZ fe fun g E=>?_;refine Ck fun _ _ ga fk g E=>?_;have ia:=h;have fj:=ga.H.lt;have a7:=Bq a7;have h:=Ar h;refine Cz fun _ ga Ca g E h=>?_
  have a7:=a7.C ga Ch;refine Ai (Al (Au (Ct Cf J J h.laid.hC.2.2.2.2.2 (AE Fg J (Df J ET (Ab J) (Ab J) J J E.U J J ?_)))));intro jz b7 _ BS;have C5:=E.U;replace E:=E.s1 b7 BS;have g:=Cw g b7 O;have h:=h.C b7 C5 O Gl
  have a7:=a7.C b7 Ch;refine Cz fun _ ga Ca g E h=>?_
  have a7:=a7.C ga Ch;refine AN ?_;rw [ef];exact ⟨ec,BO (t:=AF t [_] tFunc) rfl (Ec (ks:=[_]) ⟨fk,DK E.J⟩ E.J.row (DG (a7.W f5)) (Ao _)),h,g⟩
 have h4:t.k≠38:=CF h4;refine Aw (fun h5=>?_) fun h5=>?_
 ·have h5:t.k=27:=AH h5
  have ef:=Adz (F:=F) (S:=S) h5;have d9:F1 t=0:=by unfold F1 Ie;rw [Aq O,Aq O];rfl
  refine Ad ?_;refine G0 J WH J J (WL t _ _ h hb O HF.res d9) ((fun ch w' hz=>pM h he (by rw [ef,hz.1];exact Bg.refl _) hz.2.1 hz.2.2 g)) ?_;rintro _ _ ⟨d0,rfl,ga⟩;refine A4 fun g E=>?_;have h:=AV h;rw [d0] at ef;refine Cz fun _ ga Ca g E h=>?_
  refine Ad ?_;refine Dx (Ej none) [3,0,1,3,0,1] [0,1,3,0,8,31] CG Ag [0,1,2,3,4,5] J ?_;refine Da fun g E h=>?_;refine As 0 J J (fun _=>AB Fg (Ab J)) (Bb 1 J J (fun w1 hx=>A8 Cf (Ab J) J (fun _=>(E.J.C hx DD).row.part 5 2)) (As 3 J J (fun _=>AB H7 (Ab J)) (Bb 4 J J (fun w1 hx=>AZ Cb (Ab J) (fun _=>(E.g2.C hx DD).y J)) (AW 2 J J ?_))));refine Bt (L':=[5]) [3,0,1,3,0,1] J J J ?_;refine DI (Px (Cx F S t).1.ty _ h.laid.hL h.laid.hb) (fun jh c1=>?_);have g:=BZ g c1;replace E:=E.A c1;have h:=h.A (c1);refine Bs ((c1).O _) ?_;refine AW 5 J J ?_;refine Bt (L':=[]) [3,0,1,3,0,1] J J J ?_;refine EL J G1 J J J (GS _ _ _ _) ((fun ch w' hz=>IC h he BT (by rw [ef];exact Bg.refl _) hz g (Ao _))) ?_;rintro jy jt ⟨rfl,eo,cy⟩;refine ⟨fun _=>cy,?_⟩;have g:=BZ g cy;replace E:=E.A cy;have h:=h.A (cy);rw [eo] at ef;refine Bs ((cy).O _) ?_;refine Dt [4,5] ?_;refine Cz fun _ ga Ca g E h=>?_
  refine AN ?_;rw [ef];exact ⟨he,Po _ _ _ (WZ F S t),h,g⟩
 have h5:t.k≠27:=CF h5;refine Aw (fun h6=>?_) fun h6=>?_
 ·have h6:t.k=28:=AH h6
  obtain ⟨_,hl,z0⟩:=Og h6 hx;have be:=az 0 O;have ef:=mP (F:=F) (S:=S) h6 hl;have an:=(EG F (Aa t 0)).ex S;have bm:=((Lm F (Aa t 0)).ex S hs).can hc;obtain ⟨hpe,ii,it,hcell,ad⟩:=Ba aa (i:=0) O;refine Ad ?_;refine G0 J LY J J (D1.to (KE 0 O z0) [b3,b4,b5] h he hc ad hb O (E.Q Br) g.size) ((fun ch w' hz=>Dm.pass hz (by rw [ef];exact (Bg.be ((Bg.refl _).be ((Bg.refl _).am _ _)) ((Bg.refl _).am _ _)).I _ _ _) (Ao _) g)) ?_;rintro j2 jw ⟨⟨jj,jr,rfl,fz,ag⟩,b6,h,ff⟩;refine EZ ff fun g E=>?_;refine A5 fun _ _ ga _ g E=>?_;have j1:=h;have gn:=ga.H.lt;have ag:=Bq ag;have h:=Ar h;refine Cz fun _ ga Ca g E h=>?_
  have ag:=ag.C ga Ch;refine Ad ?_;refine AO (ZB ((Af F (Aa t 0)).ex S).1 _ t.o h) ?_;rintro _ _ ⟨rfl,ga⟩;refine A4 fun g E=>?_;have h:=AV h;have ag:=AV ag;refine A5 fun _ _ N7 _ g E=>?_;have fu:=h;have im:=N7.H.lt;have ag:=ag.new N7;have h:=h.A (N7.g);have h:=fu.ak N7;refine Cz fun _ ga Ca g E h=>?_
  have ag:=ag.C ga Ch;refine Ad ?_;refine EL J G1 J J J (GS _ _ _ _) ((fun ch w' hz=>IC (h.sub (Y:=X) bh.1 (by intro j hj;simp [hj])) b6 BT (by rw [ef,hz.1];exact (Bg.refl _).I _ _ _) hz g (by rw [an.w];exact Ao _))) ?_;rintro _ _ ⟨rfl,d3,ga⟩;refine A4 fun g E=>?_;have h:=AV h;have ag:=AV ag;rw [d3,AL] at ef;refine Ad ?_;refine EL J G1 J J J (GS _ _ _ _) ((fun ch w' hz=>IC (h.sub (Y:=X) bh.1 (by intro j hj;simp [hj])) b6 BT (by rw [ef,hz.1];exact (Bg.refl _).I _ _ _) hz g (by rw [an.w];exact Ao _))) ?_;rintro _ _ ⟨rfl,d4,ga⟩;refine A4 fun g E=>?_;have h:=AV h;have ag:=AV ag;rw [d4,AL,D4,Bool.not_not] at ef;refine Ad ?_;refine Dx (Ej none) [0,1,3,0,1] [0,1,0,4,15] CG Ag [0,1,2,3,4] J ?_;refine Da fun g E h=>?_;have ag:=ag.A (G.drew _);refine Bb 0 J J (fun w1 hx=>A8 Cf (Ab J) J (fun _=>(E.J.C hx DD).row)) (As 2 J J (fun _=>AB H7 (Ab J)) (Bb 3 J J (fun w1 hx=>AZ Cb (Ab J) (fun _=>(E.g4.C hx DD).y J)) (AW 1 J J ?_)));refine Bt (L':=[4]) [0,1,3,0,1] J J J ?_;refine DI (Px (GY F ((Af F (Aa t 0)).ex S).1.ty t.o).1 _ h.laid.hL h.laid.hb) (fun jo cd=>?_);have g:=BZ g cd;replace E:=E.A cd;have h:=h.A (cd);have ag:=ag.A (cd);refine Bs ((cd).O _) ?_;refine AW 4 J J ?_;refine Bt (L':=[]) [0,1,3,0,1] J J J ?_;refine EL J G1 J J J (GS _ _ _ _) ((fun ch w' hz=>IC (h.sub (Y:=X) bh.1 (by intro j hj;simp [hj])) b6 BT (by rw [ef];exact Bg.refl _) hz g (by rw [an.w];exact Ao _))) ?_
  rintro jp jn ⟨rfl,d6,cb⟩;refine ⟨fun _=>cb,?_⟩;have g:=BZ g cb;replace E:=E.A cb;have h:=h.A (cb);have ag:=ag.A (cb);rw [d6] at ef;refine Bs ((cb).O _) ?_;refine Dt [4,5,6,7] ?_;refine Ad ?_;refine Dx (Ej (some b5)) [0,1,0,3,1,3,1] [0,1,0,3,11,31,63] CG Ag [0,1,2,3,4,5,6] J ?_;refine Da fun g E h=>?_;have ag:=ag.A (G.drew _);refine Bb 0 J J (fun w1 hx=>A8 A3 (Ab J) J (fun _=>(E.U.C hx (fun h=>E.ne 1 2 J J J (EM h))).row)) (Bb 2 J J (fun w1 hx=>A8 Cf (Ab J) J (fun _=>(E.J.C hx (fun h=>E.ne 0 2 J J J (EM h))).row)) (AW 1 J J ?_));refine Bt (L':=[3,4,5,6]) [0,1,0,3,2,3,2] J J J ?_;refine Ck fun _ _ c3 fp g E=>?_;have ho:=h;have fg:=c3.H.lt;have ag:=ag.new c3;have h:=h.A (c3.g);refine Bs ((c3.g).O _) ?_;refine As 3 J J (fun _=>AB AY (Ab J)) (AW 4 J J ?_);refine Bt (L':=[5,6]) [0,1,0,3,2,3,2] J J J ?_;refine AS fun _ bz Ca g E=>?_;have h:=h.C bz Ca O Gl
  have ag:=ag.C bz Ch;refine Bs (bz) ?_;refine As 5 J J (fun _=>AB Fg (Ab J)) (AW 6 J J ?_);refine Bt (L':=[]) [0,1,0,3,2,3,2] J J J ?_;refine Df J ET (Ab J) (Ab J) J J E.g3 J J ?_;intro gj av _ BS;have C5:=E.g3;replace E:=E.s3 av BS;have g:=Cw g av O;have h:=h.C av C5 O Gl
  have ag:=ag.C av Ch;refine Bs (av) ?_;refine Dt [4,5] ?_;refine Cz fun _ ga Ca g E h=>?_
  have ag:=ag.C ga Ch;refine AN ?_;rw [ef];exact ⟨b6,BO (t:=AF t [_] _) rfl (Ec (ks:=[_]) ⟨fp,DK E.J⟩ E.J.row (DG (ag.W fz)) (Ao _)),h.sub bh.1 (by intro j hj;simp [hj]),g⟩
 have h6:t.k≠28:=CF h6;refine Aw (fun h7=>?_) fun h7=>?_
 ·have h7:t.k=29:=AH h7
  obtain ⟨hl,z0,z1⟩:=Rl h7 hx;have be:=az 0 O;have f1:=az 1 O;have ft:DT t 0=count (Aa t 0):=It O;have ef:=zW (F:=F) (S:=S) h7 hl;have an:=(EG F (Aa t 0)).ex S;have bm:=((Lm F (Aa t 0)).ex S hs).can hc;refine Ad ?_;refine Dx (Ej none) [3,3,0,3,0,0,2,1,2] [0,0,2,6,14,0,63,0,255] CG Ag [0,1,2,3,4,5,6,7,8] J ?_;refine Da fun g E h=>?_;have aa:=aa.A (G.drew _);refine As 0 J J (Bm J) (As 1 J J (fun _=>AB AY (Ab J)) (Bb 2 J J (fun w1 hx=>AZ Bh (Ab J) (fun _=>(E.g2.C hx DD).y J)) (?_)));obtain ⟨hpe,hw,hh,hcell,ad⟩:=Ba aa (i:=0) O;refine As 3 J J (fun _=>CS AC (Ab J) Bd (fun _=>O) (fun _=>hpe)) (Bb 4 J J (fun w1 hx=>A8 A3 (Ab J) J (fun _=>by first|exact hcell.kn hx|exact hcell.gt hx (Gi aa (i:=0) O)|exact hcell.al hx (Gi aa (i:=0) O) (by have:=Gi aa (i:=0) O;simp;omega))) (Bb 5 J J (fun w1 hx=>A8 Cf IV J (fun _=>by first|exact h.laid.hC.2.2.2.1.kn hx|exact h.laid.hC.2.2.2.1.kb hx (by have:=h.laid.hG;omega)|exact h.laid.hC.2.2.2.1.gt hx (by have:=h.laid.hG;omega)|exact h.laid.hC.2.2.2.1.al hx (by have:=h.laid.hG;omega) (by have:=h.laid.hG;simp;omega))) (Lx 6 7 J J ?_ ?_)))
  ·refine DN (L':=[7,8]) [3,3,0,3,0,0,2,1,2] rfl rfl rfl rfl ?_
   refine EL J KZ J J J (K0 (k:=5) (KE 0 O z0) (J8 F _) BT [b3,b4,b5] h he hc ad hb O (E.Q Br) g.size) ((fun ch w' hz=>Dm.pass hz (by rw [ef];exact ((EG F (Aa t 1)).ex _).e.I _ _ _) (Ao _) g)) ?_;rintro ek dt ⟨⟨d5,e0,rfl,cu,ab⟩,a1,eW,h,bb⟩;refine EZ bb fun g E=>?_;have aa:=aa.gt bb (fun k h=>h);rw [eW] at a1 ef;have hb:=an.bd _ hb;refine DL ?_;refine AW 7 J J ?_;refine Bt (L':=[8]) [3,3,0,3,0,0,2,1,2] J J J ?_;refine A5 fun de _ au jx g E=>?_;have d7:=h;have db:=au.H.lt;have ab:=ab.new au;have h:=h.A (au.g);have aa:=aa.A (au.g);refine Bs ((au.g).O _) ?_;refine AW 8 J J ?_;refine DN (L':=[]) [3,3,0,3,0,0,2,1,2] J J J J ?_;refine Cz fun _ ga Ca g E h=>?_
   have aa:=Co aa;have ab:=ab.C ga Ch;refine DL ?_;refine Dt [0,3,4,5,10] ?_;refine Ad ?_;refine Dx (Re X n0 [b5]) [0,3,3,0,3,0,0,1,1,0,3,1,3,1] [0,0,0,4,12,28,0,126,255,0,511,1535,4095,8191] CG Ag [0,1,2,3,4,5,6,7,8,9,10,11,12,13] J ?_;refine Da fun g E h=>?_;have aa:=aa.A (G.drew _);have hcell:=hcell.A (G.drew _);have ad:=ad.A (G.drew _);have ab:=ab.A (G.drew _);refine Bb 0 J J (fun w1 hx=>A8 A3 (Ab J) J (fun _=>(E.J.al hx J (O4 (E.ne 0 1 J J J) Pw)).row)) (As 1 J J (Bm J) (As 2 J J (fun _=>AB AY (Ab J)) (Bb 3 J J (fun w1 hx=>AZ Bh (Ab J) (fun _=>(E.g3.al hx J (O4 (E.ne 3 1 J J J) Pw)).y J)) (?_))));obtain ⟨hpe,df,dk,hcell,ad⟩:=Ba aa (i:=1) O
   refine As 4 J J (fun _=>CS AC (Ab J) Bd (fun _=>O) (fun _=>hpe)) (Bb 5 J J (fun w1 hx=>A8 A3 (Ab J) J (fun _=>by first|exact hcell.kn hx|exact hcell.gt hx (Gi aa (i:=1) O)|exact hcell.al hx (Gi aa (i:=1) O) (by have:=Gi aa (i:=1) O;simp;omega))) (Bb 6 J J (fun w1 hx=>A8 Cf IV J (fun _=>by first|exact h.laid.hC.1.kn hx|exact h.laid.hC.1.kb hx (by have:=h.laid.hG;omega)|exact h.laid.hC.1.gt hx (by have:=h.laid.hG;omega)|exact h.laid.hC.1.al hx (by have:=h.laid.hG;omega) (by have:=h.laid.hG;simp;omega))) (Bb 9 J J (fun w1 hx=>A8 Cf IV J (fun _=>by first|exact h.laid.hC.1.kn hx|exact h.laid.hC.1.kb hx (by have:=h.laid.hG;omega)|exact h.laid.hC.1.gt hx (by have:=h.laid.hG;omega)|exact h.laid.hC.1.al hx (by have:=h.laid.hG;omega) (by have:=h.laid.hG;simp;omega))) (AW 7 J J ?_))));refine Bt (L':=[8,10,11,12,13]) [0,3,3,0,3,0,0,2,1,0,3,2,3,2] J J J ?_;refine EL J KZ J J J (K0 (k:=1) (KE 1 O z1) (J8 F _) BT [b3,b4,b5,de] h a1 bm ad hb O (E.Q Br) g.size) ((fun ch w' hz=>Dm.pass hz (by rw [ef];exact Bg.refl _) (by rw [an.w];exact Ao _) g)) ?_;rintro dy el ⟨⟨d8,ep,rfl,cn,ai⟩,a3,dm,h,a2⟩;refine EZ a2 fun g E=>?_;have ab:=ab.au a2;rw [dm] at a3 ef;refine Bs (FT.ar a2) ?_;refine AW 8 J J ?_;refine Bt (L':=[10,11,12,13]) [0,3,3,0,3,0,0,2,1,0,3,2,3,2] J J J ?_;refine Ck fun _ _ am cw g E=>?_;have dg:=h;have c4:=am.H.lt;have ab:=ab.new am;have ai:=ai.new am;have h:=h.A (am.g);refine Bs (FT.Y (am.g)) ?_
   refine As 10 J J (fun _=>AB AY (Ab J)) (AW 11 J J ?_);refine Bt (L':=[12,13]) [0,3,3,0,3,0,0,2,1,0,3,2,3,2] J J J ?_;refine AS fun _ al Ca g E=>?_;have h:=h.C al Ca O Gl
   have ab:=ab.C al Ch;have ai:=ai.C al Ch;refine Bs (FT.ag al BR) ?_;refine As 12 J J (fun _=>AB Fg (Ab J)) (AW 13 J J ?_);refine Bt (L':=[]) [0,3,3,0,3,0,0,2,1,0,3,2,3,2] J J J ?_;refine Df J ET (Ab J) (Ab J) J J E.g2 J J ?_;intro eb aj _ BS;have C5:=E.g2;replace E:=E.s2 aj BS;have g:=Cw g aj O;have h:=h.C aj C5 O Gl
   have ab:=ab.C aj Ch;have ai:=ai.C aj Ch;refine Bs (FT.ag aj BR) ?_;refine Dt [4,5] ?_;refine Cz fun _ ga Ca g E h=>?_
   have ab:=ab.C ga Ch;have ai:=ai.C ga Ch;refine AN ?_;rw [ef];exact ⟨a3,BO (t:=AF t [_,_] tInt) rfl (Ec (ks:=[_,_]) ⟨cw,DK E.J⟩ E.J.row (Gw (ab.W cu) (DG (ai.W cn))) (Ao _)),h,g⟩
  ·refine Bt (L':=[6,8]) [3,3,0,3,0,0,2,1,2] rfl rfl rfl ?_
   refine A5 fun de _ au _ g E=>?_;have d7:=h;have db:=au.H.lt;have h:=h.A (au.g);have aa:=aa.A (au.g);have hcell:=hcell.A (au.g);have ad:=ad.A (au.g);refine Bs ((au.g).O _) ?_;refine AW 6 J J ?_;refine DN (L':=[8]) [3,3,0,3,0,0,2,1,2] J J J J ?_;refine EL J KZ J J J (K0 (k:=5) (KE 0 O z0) (J8 F _) BT [b3,b4,b5] h he hc ad hb O (E.Q Br) g.size) ((fun ch w' hz=>Dm.pass hz (by rw [ef];exact ((EG F (Aa t 1)).ex _).e.I _ _ _) (Ao _) g)) ?_;rintro ek dt ⟨⟨d5,e0,rfl,cu,ab⟩,a1,eW,h,bb⟩;refine EZ bb fun g E=>?_;have aa:=aa.gt bb (fun k h=>h);rw [eW] at a1 ef;have hb:=an.bd _ hb;refine DL ?_;refine AW 8 J J ?_;refine DN (L':=[]) [3,3,0,3,0,0,2,1,2] J J J J ?_;refine Cz fun _ ga Ca g E h=>?_
   have aa:=Co aa;have ab:=ab.C ga Ch;refine DL ?_;refine Dt [0,3,4,5,10] ?_;refine Ad ?_;refine Dx (Re X n0 [b5]) [0,3,3,0,3,0,0,1,1,0,3,1,3,1] [0,0,0,4,12,28,0,126,255,0,511,1535,4095,8191] CG Ag [0,1,2,3,4,5,6,7,8,9,10,11,12,13] J ?_;refine Da fun g E h=>?_;have aa:=aa.A (G.drew _);have hcell:=hcell.A (G.drew _);have ad:=ad.A (G.drew _);have ab:=ab.A (G.drew _);refine Bb 0 J J (fun w1 hx=>A8 A3 (Ab J) J (fun _=>(E.J.al hx J (O4 (E.ne 0 1 J J J) Pw)).row)) (As 1 J J (Bm J) (As 2 J J (fun _=>AB AY (Ab J)) (Bb 3 J J (fun w1 hx=>AZ Bh (Ab J) (fun _=>(E.g3.al hx J (O4 (E.ne 3 1 J J J) Pw)).y J)) (?_))));obtain ⟨hpe,df,dk,hcell,ad⟩:=Ba aa (i:=1) O
   refine As 4 J J (fun _=>CS AC (Ab J) Bd (fun _=>O) (fun _=>hpe)) (Bb 5 J J (fun w1 hx=>A8 A3 (Ab J) J (fun _=>by first|exact hcell.kn hx|exact hcell.gt hx (Gi aa (i:=1) O)|exact hcell.al hx (Gi aa (i:=1) O) (by have:=Gi aa (i:=1) O;simp;omega))) (Bb 6 J J (fun w1 hx=>A8 Cf IV J (fun _=>by first|exact h.laid.hC.1.kn hx|exact h.laid.hC.1.kb hx (by have:=h.laid.hG;omega)|exact h.laid.hC.1.gt hx (by have:=h.laid.hG;omega)|exact h.laid.hC.1.al hx (by have:=h.laid.hG;omega) (by have:=h.laid.hG;simp;omega))) (Bb 9 J J (fun w1 hx=>A8 Cf IV J (fun _=>by first|exact h.laid.hC.1.kn hx|exact h.laid.hC.1.kb hx (by have:=h.laid.hG;omega)|exact h.laid.hC.1.gt hx (by have:=h.laid.hG;omega)|exact h.laid.hC.1.al hx (by have:=h.laid.hG;omega) (by have:=h.laid.hG;simp;omega))) (AW 7 J J ?_))));refine Bt (L':=[8,10,11,12,13]) [0,3,3,0,3,0,0,2,1,0,3,2,3,2] J J J ?_;refine EL J KZ J J J (K0 (k:=1) (KE 1 O z1) (J8 F _) BT [b3,b4,b5,de] h a1 bm ad hb O (E.Q Br) g.size) ((fun ch w' hz=>Dm.pass hz (by rw [ef];exact Bg.refl _) (by rw [an.w];exact Ao _) g)) ?_;rintro dy el ⟨⟨d8,ep,rfl,cn,ai⟩,a3,dm,h,a2⟩;refine EZ a2 fun g E=>?_;have ab:=ab.au a2;rw [dm] at a3 ef;refine Bs (FT.ar a2) ?_;refine AW 8 J J ?_;refine Bt (L':=[10,11,12,13]) [0,3,3,0,3,0,0,2,1,0,3,2,3,2] J J J ?_;refine Ck fun _ _ am cw g E=>?_;have dg:=h;have c4:=am.H.lt;have ab:=ab.new am;have ai:=ai.new am;have h:=h.A (am.g);refine Bs (FT.Y (am.g)) ?_
   refine As 10 J J (fun _=>AB AY (Ab J)) (AW 11 J J ?_);refine Bt (L':=[12,13]) [0,3,3,0,3,0,0,2,1,0,3,2,3,2] J J J ?_;refine AS fun _ al Ca g E=>?_;have h:=h.C al Ca O Gl
   have ab:=ab.C al Ch;have ai:=ai.C al Ch;refine Bs (FT.ag al BR) ?_;refine As 12 J J (fun _=>AB Fg (Ab J)) (AW 13 J J ?_);refine Bt (L':=[]) [0,3,3,0,3,0,0,2,1,0,3,2,3,2] J J J ?_;refine Df J ET (Ab J) (Ab J) J J E.g2 J J ?_;intro eb aj _ BS;have C5:=E.g2;replace E:=E.s2 aj BS;have g:=Cw g aj O;have h:=h.C aj C5 O Gl
   have ab:=ab.C aj Ch;have ai:=ai.C aj Ch;refine Bs (FT.ag aj BR) ?_;refine Dt [4,5] ?_;refine Cz fun _ ga Ca g E h=>?_
   have ab:=ab.C ga Ch;have ai:=ai.C ga Ch;refine AN ?_;rw [ef];exact ⟨a3,BO (t:=AF t [_,_] tInt) rfl (Ec (ks:=[_,_]) ⟨cw,DK E.J⟩ E.J.row (Gw (ab.W cu) (DG (ai.W cn))) (Ao _)),h,g⟩
 have h7:t.k≠29:=CF h7;refine Aw (fun h8=>?_) fun h8=>?_
 ·have h8:t.k=31:=AH h8
  obtain ⟨_,hl,z0⟩:=VQ h8 hx;have be:=az 0 O;have ef:=wR (F:=F) (S:=S) h8 hl;have an:=(EG F (Aa t 0)).ex S;have bm:=((Lm F (Aa t 0)).ex S hs).can hc;have b9:=(Pz F (Aa t 0)).ex S hs hc;have eu:KV t=bif Ac (t.o=[33]) then tBool else tInt:=rfl;obtain ⟨hpe,f3,fa,hcell,ad⟩:=Ba aa (i:=0) O;refine Ad ?_;refine G0 J LY J J (D1.to (KE 0 O z0) [b3,b4,b5] h he hc ad hb O (E.Q Br) g.size) ((fun ch w' hz=>Dm.pass hz (by rw [ef];exact (Bg.refl _).I _ _ _) (Ao _) g)) ?_;rintro jg ja ⟨⟨jd,ip,rfl,da,ac⟩,a8,h,eh⟩;refine EZ eh fun g E=>?_;refine A5 fun _ _ ga _ g E=>?_;have iw:=h;have gd:=ga.H.lt;have ac:=Bq ac;have h:=Ar h;refine Cz fun _ ga Ca g E h=>?_
  have ac:=ac.C ga Ch;refine Ai (Al (Am (Au (Ct Cf J J h.laid.hC.1 (AE Fg J (Df J ET (Ab J) (Ab J) J J E.U J J ?_))))));intro hu a9 _ BS;have C5:=E.U;replace E:=E.s1 a9 BS;have g:=Cw g a9 O;have h:=h.C a9 C5 O Gl
  have ac:=ac.C a9 Ch;refine Aw (fun h9=>?_) fun h9=>?_
  ·rw [show Ac (t.o=[33])=true from h9] at eu
   have ew:DA ((Af F (Aa t 0)).ex S).1 (KV t).k t.z ((Af F (Aa t 0)).ex S).2=AG (BL ((Af F (Aa t 0)).ex S).1.ty (KV t)) t.z 7 ((Af F (Aa t 0)).ex S).2:=by
    rw [eu];show AG (Ac (((Af F (Aa t 0)).ex S).1.ty.k=2)) t.z 7 _=AG (BL _ ⟨2,[]⟩) t.z 7 _;rw [O0 b9 BT]
   replace eu:KV t=tBool:=eu;rw [ew,eu] at ef;refine Au (Ct Cf J J h.laid.hC.2.1 (AE Fg J (Df J ET (Ab J) (Ab J) J J E.U J J ?_)));intro ha ba _ BS;have C5:=E.U;replace E:=E.s1 ba BS;have g:=Cw g ba O;have h:=h.C ba C5 O Gl
   have ac:=ac.C ba Ch;refine Ad ?_;refine Dx (Ej none) [3,0,3,0,3,3,0,1] [0,1,0,4,15,0,32,127] CG Ag [0,1,2,3,4,5,6,7] J ?_;refine Da fun g E h=>?_;have ac:=ac.A (G.drew _);refine As 0 J J (fun _=>AB Fg (Ab J)) (Bb 1 J J (fun w1 hx=>A8 Cf (Ab J) J (fun _=>(E.J.C hx DD).row.part 5 2)) (As 2 J J (fun _=>AB Fg (Ab J)) (Bb 3 J J (fun w1 hx=>A8 Cf (Ab J) J (fun _=>(E.U.C hx DD).row.part 5 2)) (As 4 J J (fun _=>I9 Iv (Ab J) (Ab J) J) (As 5 J J (fun _=>AB H7 (Ab J)) (Bb 6 J J (fun w1 hx=>AZ Cb (Ab J) (fun _=>(E.g3.C hx DD).y J)) (AW 7 J J ?_)))))));refine Bt (L':=[]) [3,0,3,0,3,3,0,1] J J J ?_;refine EL J G1 J J J (GS _ _ _ _) ((fun ch w' hz=>IC h a8 BT (by rw [ef];exact Bg.refl _) hz g (by rw [an.w];exact Ao _))) ?_;rintro d1 e2 ⟨rfl,br,ak⟩;refine ⟨fun _=>ak,?_⟩;have g:=BZ g ak;replace E:=E.A ak;have h:=h.A (ak);have ac:=ac.A (ak);refine Bs ((ak).O _) ?_;refine Dt [4,5,11] ?_;refine Ck fun _ _ ga ck g E=>?_;have di:=h;have c2:=ga.H.lt;have ac:=Bq ac;have h:=Ar h;refine Cz fun _ ga Ca g E h=>?_
   have ac:=ac.C ga Ch;refine Cz fun _ ga Ca g E h=>?_
   have ac:=ac.C ga Ch;refine AN ?_;rw [ef,show BL ((Af F (Aa t 0)).ex S).1.ty _=true from br];exact ⟨a8,BO (t:=AF t [_] _) rfl (Ec (ks:=[_]) ⟨ck,DK E.J⟩ E.J.row (DG (ac.W da)) (Ao _)),h,g⟩
  rw [show Ac (t.o=[33])=false from h9] at eu
  have ew:DA ((Af F (Aa t 0)).ex S).1 (KV t).k t.z ((Af F (Aa t 0)).ex S).2=AG (BL ((Af F (Aa t 0)).ex S).1.ty (KV t)) t.z 7 ((Af F (Aa t 0)).ex S).2:=by
   rw [eu];show AG (Ac (((Af F (Aa t 0)).ex S).1.ty.k=1)) t.z 7 _=AG (BL _ ⟨1,[]⟩) t.z 7 _;rw [O0 b9 BT]
  replace eu:KV t=tInt:=eu;rw [ew,eu] at ef;refine Ad ?_;refine Dx (Ej none) [3,0,3,0,3,3,0,1] [0,1,0,4,15,0,32,127] CG Ag [0,1,2,3,4,5,6,7] J ?_;refine Da fun g E h=>?_;have ac:=ac.A (G.drew _);refine As 0 J J (fun _=>AB Fg (Ab J)) (Bb 1 J J (fun w1 hx=>A8 Cf (Ab J) J (fun _=>(E.J.C hx DD).row.part 5 2)) (As 2 J J (fun _=>AB Fg (Ab J)) (Bb 3 J J (fun w1 hx=>A8 Cf (Ab J) J (fun _=>(E.U.C hx DD).row.part 5 2)) (As 4 J J (fun _=>I9 Iv (Ab J) (Ab J) J) (As 5 J J (fun _=>AB H7 (Ab J)) (Bb 6 J J (fun w1 hx=>AZ Cb (Ab J) (fun _=>(E.g3.C hx DD).y J)) (AW 7 J J ?_)))))));refine Bt (L':=[]) [3,0,3,0,3,3,0,1] J J J ?_;refine EL J G1 J J J (GS _ _ _ _) ((fun ch w' hz=>IC h a8 BT (by rw [ef];exact Bg.refl _) hz g (by rw [an.w];exact Ao _))) ?_;rintro d1 e2 ⟨rfl,br,ak⟩;refine ⟨fun _=>ak,?_⟩;have g:=BZ g ak;replace E:=E.A ak;have h:=h.A (ak);have ac:=ac.A (ak);refine Bs ((ak).O _) ?_;refine Dt [4,5,11] ?_;refine Ck fun _ _ ga ck g E=>?_;have di:=h;have c2:=ga.H.lt;have ac:=Bq ac;have h:=Ar h;refine Cz fun _ ga Ca g E h=>?_
  have ac:=ac.C ga Ch;refine Cz fun _ ga Ca g E h=>?_
  have ac:=ac.C ga Ch;refine AN ?_;rw [ef,show BL ((Af F (Aa t 0)).ex S).1.ty _=true from br];exact ⟨a8,BO (t:=AF t [_] _) rfl (Ec (ks:=[_]) ⟨ck,DK E.J⟩ E.J.row (DG (ac.W da)) (Ao _)),h,g⟩
 have h8:t.k≠31:=CF h8;refine Aw (fun bt=>?_) fun bt=>?_
 ·have bt:t.k=32:=AH bt
  obtain ⟨_,hl,z0,z1⟩:=SN bt hx;have be:=az 0 O;have f1:=az 1 O;have ft:DT t 0=count (Aa t 0):=It O;have ef:=uZ (F:=F) (S:=S) bt hl;have an:=(EG F (Aa t 0)).ex S;have bm:=((Lm F (Aa t 0)).ex S hs).can hc;obtain ⟨hpe,gc,fm,hcell,ad⟩:=Ba aa (i:=0) O;refine Ad ?_;refine G0 J LY J J (D1.to (KE 0 O z0) [b3,b4,b5] h he hc ad hb O (E.Q Br) g.size) ((fun ch w' hz=>Dm.pass hz (by rw [ef];exact ((EG F (Aa t 1)).ex _).e.I _ _ _) (Ao _) g)) ?_;rintro gz gk ⟨⟨ij,gw,rfl,dv,ae⟩,dd,h,c6⟩;refine EZ c6 fun g E=>?_;have aa:=aa.gt c6 (fun k h=>h);have hb:=an.bd _ hb;refine A5 fun fo _ ga _ g E=>?_;have hy:=h;have f9:=ga.H.lt;have ae:=Bq ae;have h:=Ar h;have aa:=Ar aa;refine Cz fun _ ga Ca g E h=>?_
  have aa:=Co aa;have ae:=ae.C ga Ch;obtain ⟨hpe,f8,fq,hcell,ad⟩:=Ba aa (i:=1) O;refine Ad ?_;refine G0 J LY J J (D1.to (KE 1 O z1) [b3,b4,b5,fo] h dd bm ad hb O (E.Q Br) g.size) ((fun ch w' hz=>Dm.pass hz (by rw [ef];exact (Bg.refl _).I _ _ _) (by rw [an.w];exact Ao _) g)) ?_;rintro iy iq ⟨⟨go,i6,rfl,dp,af⟩,ci,h,c9⟩;refine EZ c9 fun g E=>?_;have ae:=ae.au c9;refine A5 fun _ _ ga _ g E=>?_;have ih:=h;have fc:=ga.H.lt;have ae:=Bq ae;have af:=Bq af;have h:=Ar h;refine Cz fun _ ga Ca g E h=>?_
  have ae:=ae.C ga Ch;have af:=af.C ga Ch;refine Ad ?_;refine DI (Aga t.o ((Af F (Aa t 0)).ex S).1.ty ((Af F (Aa t 1)).ex ((Af F (Aa t 0)).ex S).2).1.ty _ h.laid.hL h.laid.hb) (fun i5 bg=>?_);have g:=BZ g bg;replace E:=E.A bg;have h:=h.A (bg);have ae:=ae.A (bg);have af:=af.A (bg);refine A5 fun _ _ cr _ g E=>?_;have dn:=h;have gf:=cr.H.lt;have ae:=ae.new cr;have af:=af.new cr;have h:=h.A (cr.g);have h:=dn.ak cr;refine Cz fun _ ga Ca g E h=>?_
  have ae:=ae.C ga Ch;have af:=af.C ga Ch;refine Ad ?_;refine EL J G1 J J J (GS _ _ _ _) ((fun ch w' hz=>IC (h.sub (Y:=X) bh.1 (by intro j hj;simp [hj])) ci BT (by rw [ef];exact Bg.refl _) hz g (by rw [((EG F (Aa t 1)).ex _).w,an.w];exact Ao _))) ?_;rintro _ _ ⟨rfl,dh,ga⟩;refine A4 fun g E=>?_;have h:=AV h;have ae:=AV ae;have af:=AV af;rw [dh] at ef;refine Ad ?_;refine Dx (Ej (some b5)) [0,0,1,0,3,1,3,1] [0,0,3,0,7,23,63,127] CG Ag [0,1,2,3,4,5,6,7] J ?_;refine Da fun g E h=>?_;have ae:=ae.A (G.drew _);have af:=af.A (G.drew _);refine Bb 0 J J (fun w1 hx=>A8 A3 (Ab J) J (fun _=>(E.g2.C hx (fun h=>E.ne 2 3 J J J (EM h))).row)) (Bb 1 J J (fun w1 hx=>A8 A3 (Ab J) J (fun _=>(E.U.C hx (fun h=>E.ne 1 3 J J J (EM h))).row)) (Bb 3 J J (fun w1 hx=>A8 Cf (Ab J) J (fun _=>(E.J.C hx (fun h=>E.ne 0 3 J J J (EM h))).row)) (AW 2 J J ?_)));refine Bt (L':=[4,5,6,7]) [0,0,1,0,3,2,3,2] J J J ?_;refine Ck fun _ _ bi ey g E=>?_;have fh:=h;have e5:=bi.H.lt;have ae:=ae.new bi;have af:=af.new bi;have h:=h.A (bi.g);refine Bs ((bi.g).O _) ?_;refine As 4 J J (fun _=>AB AY (Ab J)) (AW 5 J J ?_);refine Bt (L':=[6,7]) [0,0,1,0,3,2,3,2] J J J ?_;refine AS fun _ a6 Ca g E=>?_;have h:=h.C a6 Ca O Gl
  have ae:=ae.C a6 Ch;have af:=af.C a6 Ch;refine Bs (a6) ?_;refine As 6 J J (fun _=>AB Fg (Ab J)) (AW 7 J J ?_);refine Bt (L':=[]) [0,0,1,0,3,2,3,2] J J J ?_;refine Df J ET (Ab J) (Ab J) J J E.g4 J J ?_;intro jb ar _ BS;have C5:=E.g4;replace E:=E.s4 ar BS;have g:=Cw g ar O;have h:=h.C ar C5 O Gl
  have ae:=ae.C ar Ch;have af:=af.C ar Ch;refine Bs (ar) ?_;refine Dt [4,5] ?_;refine Cz fun _ ga Ca g E h=>?_
  have ae:=ae.C ga Ch;have af:=af.C ga Ch;refine AN ?_;rw [ef];exact ⟨ci,BO (t:=AF t [_,_] _) rfl (Ec (ks:=[_,_]) ⟨ey,DK E.J⟩ E.J.row (Gw (ae.W dv) (DG (af.W dp))) (Ao _)),h.sub bh.1 (by intro j hj;simp [hj]),g⟩
 have bt:t.k≠32:=CF bt;refine Aw (fun bv=>?_) fun bv=>?_
 ·have bv:t.k=33:=AH bv
  obtain ⟨hl,z0⟩:=XC bv hx;have be:=az 0 O;have ef:=rU (F:=F) (S:=S) bv hl;have an:=(EG F (Aa t 0)).ex S;have bm:=((Lm F (Aa t 0)).ex S hs).can hc;have b9:=(Pz F (Aa t 0)).ex S hs hc;unfold DA at ef;rw [← O0 b9 (k:=6) BT] at ef;obtain ⟨hpe,f6,fs,hcell,ad⟩:=Ba aa (i:=0) O;refine Ad ?_;refine G0 J LY J J (D1.to (KE 0 O z0) [b3,b4,b5] h he hc ad hb O (E.Q Br) g.size) ((fun ch w' hz=>Dm.pass hz (by rw [ef];exact (Bg.refl _).I _ _ _) (Ao _) g)) ?_;rintro i9 gs ⟨⟨ir,gy,rfl,dx,ah⟩,ce,h,ed⟩;refine EZ ed fun g E=>?_;refine A5 fun _ _ ga _ g E=>?_;have i8:=h;have fd:=ga.H.lt;have ah:=Bq ah;have h:=Ar h;refine Cz fun _ ga Ca g E h=>?_
  have ah:=ah.C ga Ch;refine Ad ?_;refine Dx (Ej none) [3,0,0,3,3,0,1] [0,1,0,7,0,16,63] CG Ag [0,1,2,3,4,5,6] J ?_;refine Da fun g E h=>?_;have ah:=ah.A (G.drew _);refine As 0 J J (fun _=>AB Fg (Ab J)) (Bb 1 J J (fun w1 hx=>A8 Cf (Ab J) J (fun _=>(E.J.C hx DD).row.part 5 2)) (Bb 2 J J (fun w1 hx=>A8 Cf IV J (fun _=>by first|exact h.laid.hC.2.2.2.2.1.kn hx|exact h.laid.hC.2.2.2.2.1.kb hx (by have:=h.laid.hG;omega)|exact h.laid.hC.2.2.2.2.1.gt hx (by have:=h.laid.hG;omega)|exact h.laid.hC.2.2.2.2.1.al hx (by have:=h.laid.hG;omega) (by have:=h.laid.hG;simp;omega))) (As 3 J J (fun _=>I9 Iv (Ab J) (Ab J) J) (As 4 J J (fun _=>AB H7 (Ab J)) (Bb 5 J J (fun w1 hx=>AZ Cb (Ab J) (fun _=>(E.g3.C hx DD).y J)) (AW 6 J J ?_))))));refine Bt (L':=[]) [3,0,0,3,3,0,1] J J J ?_;refine EL J G1 J J J (GS _ _ _ _) ((fun ch w' hz=>IC h ce BT (by rw [ef];exact Bg.refl _) hz g (by rw [an.w];exact Ao _))) ?_;rintro ib je ⟨rfl,dc,a5⟩;refine ⟨fun _=>a5,?_⟩;have g:=BZ g a5;replace E:=E.A a5;have h:=h.A (a5);have ah:=ah.A (a5);rw [show BL ((Af F (Aa t 0)).ex S).1.ty ⟨6,[]⟩=true from dc] at ef;refine Bs ((a5).O _) ?_;refine Dt [4,5,16] ?_;refine Ad ?_;refine Dx (Ej (some b5)) [0,1,0,3,1,3,1] [0,1,0,3,11,31,63] CG Ag [0,1,2,3,4,5,6] J ?_;refine Da fun g E h=>?_;have ah:=ah.A (G.drew _)
  refine Bb 0 J J (fun w1 hx=>A8 A3 (Ab J) J (fun _=>(E.J.C hx (fun h=>E.ne 0 1 J J J (EM h))).row)) (Bb 2 J J (fun w1 hx=>A8 Cf IV J (fun _=>by first|exact h.laid.hC.1.kn hx|exact h.laid.hC.1.kb hx (by have:=h.laid.hG;omega)|exact h.laid.hC.1.gt hx (by have:=h.laid.hG;omega)|exact h.laid.hC.1.al hx (by have:=h.laid.hG;omega) (by have:=h.laid.hG;simp;omega))) (AW 1 J J ?_));refine Bt (L':=[3,4,5,6]) [0,1,0,3,2,3,2] J J J ?_;refine Ck fun _ _ b0 dw g E=>?_;have fx:=h;have e6:=b0.H.lt;have ah:=ah.new b0;have h:=h.A (b0.g);refine Bs ((b0.g).O _) ?_;refine As 3 J J (fun _=>AB AY (Ab J)) (AW 4 J J ?_);refine Bt (L':=[5,6]) [0,1,0,3,2,3,2] J J J ?_;refine AS fun _ bu Ca g E=>?_;have h:=h.C bu Ca O Gl
  have ah:=ah.C bu Ch;refine Bs (bu) ?_;refine As 5 J J (fun _=>AB Fg (Ab J)) (AW 6 J J ?_);refine Bt (L':=[]) [0,1,0,3,2,3,2] J J J ?_;refine Df J ET (Ab J) (Ab J) J J E.g2 J J ?_;intro i0 a4 _ BS;have C5:=E.g2;replace E:=E.s2 a4 BS;have g:=Cw g a4 O;have h:=h.C a4 C5 O Gl
  have ah:=ah.C a4 Ch;refine Bs (a4) ?_;refine Dt [4,5] ?_;refine Cz fun _ ga Ca g E h=>?_
  have ah:=ah.C ga Ch;refine AN ?_;rw [ef];exact ⟨ce,BO (t:=AF t [_] tInt) rfl (Ec (ks:=[_]) ⟨dw,DK E.J⟩ E.J.row (DG (ah.W dx)) (Ao _)),h,g⟩
 have bv:t.k≠33:=CF bv;refine Aw (fun bw=>?_) fun bw=>?_
 ·have bw:t.k=37:=AH bw
  obtain ⟨hl,z0⟩:=Wo bw hx;have be:=az 0 O;have ef:=zN (F:=F) (S:=S) bw hl;refine Dx (Re X n0 [b5]) [3,3,0,3,0,0,1,1,0,3,1,3,1] [0,0,2,6,14,0,63,127,0,255,767,2047,4095] CG Ag [0,1,2,3,4,5,6,7,8,9,10,11,12] J ?_;refine Da fun g E h=>?_;have aa:=aa.A (G.drew _);refine As 0 J J (Bm J) (As 1 J J (fun _=>AB AY (Ab J)) (Bb 2 J J (fun w1 hx=>AZ Bh (Ab J) (fun _=>(E.g2.al hx J (O4 (E.ne 2 0 J J J) Pw)).y J)) (?_)));obtain ⟨hpe,f0,fy,hcell,ad⟩:=Ba aa (i:=0) O;refine As 3 J J (fun _=>CS AC (Ab J) Bd (fun _=>O) (fun _=>hpe)) (Bb 4 J J (fun w1 hx=>A8 A3 (Ab J) J (fun _=>by first|exact hcell.kn hx|exact hcell.gt hx (Gi aa (i:=0) O)|exact hcell.al hx (Gi aa (i:=0) O) (by have:=Gi aa (i:=0) O;simp;omega))) (Bb 5 J J (fun w1 hx=>A8 Cf IV J (fun _=>by first|exact h.laid.hC.2.2.2.1.kn hx|exact h.laid.hC.2.2.2.1.kb hx (by have:=h.laid.hG;omega)|exact h.laid.hC.2.2.2.1.gt hx (by have:=h.laid.hG;omega)|exact h.laid.hC.2.2.2.1.al hx (by have:=h.laid.hG;omega) (by have:=h.laid.hG;simp;omega))) (Bb 8 J J (fun w1 hx=>A8 Cf IV J (fun _=>by first|exact h.laid.hC.1.kn hx|exact h.laid.hC.1.kb hx (by have:=h.laid.hG;omega)|exact h.laid.hC.1.gt hx (by have:=h.laid.hG;omega)|exact h.laid.hC.1.al hx (by have:=h.laid.hG;omega) (by have:=h.laid.hG;simp;omega))) (AW 6 J J ?_))));refine Bt (L':=[7,9,10,11,12]) [3,3,0,3,0,0,2,1,0,3,2,3,2] J J J ?_
  refine EL J KZ J J J (K0 (k:=5) (KE 0 O z0) (J8 F _) BT [b3,b4,b5] h he hc ad hb O (E.Q Br) g.size) ((fun ch w' hz=>Dm.pass hz (by rw [ef];exact Bg.refl _) (Ao _) g)) ?_;rintro io gr ⟨⟨jc,i7,rfl,ej,ao⟩,cq,eW,h,c8⟩;refine EZ c8 fun g E=>?_;rw [eW] at cq ef;refine Bs (FT.ar c8) ?_;refine AW 7 J J ?_;refine Bt (L':=[9,10,11,12]) [3,3,0,3,0,0,2,1,0,3,2,3,2] J J J ?_;refine Ck fun _ _ b1 dz g E=>?_;have f2:=h;have e4:=b1.H.lt;have ao:=ao.new b1;have h:=h.A (b1.g);refine Bs (FT.Y (b1.g)) ?_;refine As 9 J J (fun _=>AB AY (Ab J)) (AW 10 J J ?_);refine Bt (L':=[11,12]) [3,3,0,3,0,0,2,1,0,3,2,3,2] J J J ?_;refine AS fun _ bq Ca g E=>?_;have h:=h.C bq Ca O Gl
  have ao:=ao.C bq Ch;refine Bs (FT.ag bq BR) ?_;refine As 11 J J (fun _=>AB Fg (Ab J)) (AW 12 J J ?_);refine Bt (L':=[]) [3,3,0,3,0,0,2,1,0,3,2,3,2] J J J ?_;refine Df J ET (Ab J) (Ab J) J J E.U J J ?_;intro i4 ay _ BS;have C5:=E.U;replace E:=E.s1 ay BS;have g:=Cw g ay O;have h:=h.C ay C5 O Gl
  have ao:=ao.C ay Ch;refine Bs (FT.ag ay BR) ?_;refine Dt [4,5] ?_;refine Cz fun _ ga Ca g E h=>?_
  have ao:=ao.C ga Ch;refine AN ?_;rw [ef];exact ⟨cq,BO (t:=AF t [_] tInt) rfl (Ec (ks:=[_]) ⟨dz,DK E.J⟩ E.J.row (DG (ao.W ej)) (Ao _)),h,g⟩
 have bw:t.k≠37:=CF bw;refine Aw (fun bk=>?_) fun bk=>?_
 ·have bk:t.k=35:=AH bk
  obtain ⟨hl,z0⟩:=XD bk hx;have be:=az 0 O;have ef:=Aeq (F:=F) (S:=S) bk hl;refine Dx (Re X n0 [b5]) [3,3,0,3,0,0,1,1,0,3,1,3,1] [0,0,2,6,14,0,63,127,0,255,767,2047,4095] CG Ag [0,1,2,3,4,5,6,7,8,9,10,11,12] J ?_;refine Da fun g E h=>?_;have aa:=aa.A (G.drew _);refine As 0 J J (Bm J) (As 1 J J (fun _=>AB AY (Ab J)) (Bb 2 J J (fun w1 hx=>AZ Bh (Ab J) (fun _=>(E.g2.al hx J (O4 (E.ne 2 0 J J J) Pw)).y J)) (?_)));obtain ⟨hpe,fw,gg,hcell,ad⟩:=Ba aa (i:=0) O;refine As 3 J J (fun _=>CS AC (Ab J) Bd (fun _=>O) (fun _=>hpe)) (Bb 4 J J (fun w1 hx=>A8 A3 (Ab J) J (fun _=>by first|exact hcell.kn hx|exact hcell.gt hx (Gi aa (i:=0) O)|exact hcell.al hx (Gi aa (i:=0) O) (by have:=Gi aa (i:=0) O;simp;omega))) (Bb 5 J J (fun w1 hx=>A8 Cf IV J (fun _=>by first|exact h.laid.hC.1.kn hx|exact h.laid.hC.1.kb hx (by have:=h.laid.hG;omega)|exact h.laid.hC.1.gt hx (by have:=h.laid.hG;omega)|exact h.laid.hC.1.al hx (by have:=h.laid.hG;omega) (by have:=h.laid.hG;simp;omega))) (Bb 8 J J (fun w1 hx=>A8 Cf IV J (fun _=>by first|exact h.laid.hC.2.2.2.1.kn hx|exact h.laid.hC.2.2.2.1.kb hx (by have:=h.laid.hG;omega)|exact h.laid.hC.2.2.2.1.gt hx (by have:=h.laid.hG;omega)|exact h.laid.hC.2.2.2.1.al hx (by have:=h.laid.hG;omega) (by have:=h.laid.hG;simp;omega))) (AW 6 J J ?_))));refine Bt (L':=[7,9,10,11,12]) [3,3,0,3,0,0,2,1,0,3,2,3,2] J J J ?_
  refine EL J KZ J J J (K0 (k:=1) (KE 0 O z0) (J8 F _) BT [b3,b4,b5] h he hc ad hb O (E.Q Br) g.size) ((fun ch w' hz=>Dm.pass hz (by rw [ef];exact Bg.refl _) (Ao _) g)) ?_;rintro ie gi ⟨⟨i2,gp,rfl,d2,aq⟩,cj,eW,h,c5⟩;refine EZ c5 fun g E=>?_;rw [eW] at cj ef;refine Bs (FT.ar c5) ?_;refine AW 7 J J ?_;refine Bt (L':=[9,10,11,12]) [3,3,0,3,0,0,2,1,0,3,2,3,2] J J J ?_;refine Ck fun _ _ b8 du g E=>?_;have e9:=h;have e7:=b8.H.lt;have aq:=aq.new b8;have h:=h.A (b8.g);refine Bs (FT.Y (b8.g)) ?_;refine As 9 J J (fun _=>AB AY (Ab J)) (AW 10 J J ?_);refine Bt (L':=[11,12]) [3,3,0,3,0,0,2,1,0,3,2,3,2] J J J ?_;refine AS fun _ bp Ca g E=>?_;have h:=h.C bp Ca O Gl
  have aq:=aq.C bp Ch;refine Bs (FT.ag bp BR) ?_;refine As 11 J J (fun _=>AB Fg (Ab J)) (AW 12 J J ?_);refine Bt (L':=[]) [3,3,0,3,0,0,2,1,0,3,2,3,2] J J J ?_;refine Df J ET (Ab J) (Ab J) J J E.U J J ?_;intro ic ax _ BS;have C5:=E.U;replace E:=E.s1 ax BS;have g:=Cw g ax O;have h:=h.C ax C5 O Gl
  have aq:=aq.C ax Ch;refine Bs (FT.ag ax BR) ?_;refine Dt [4,5] ?_;refine Cz fun _ ga Ca g E h=>?_
  have aq:=aq.C ga Ch;refine AN ?_;rw [ef];exact ⟨cj,BO (t:=AF t [_] ⟨5,[]⟩) rfl (Ec (ks:=[_]) ⟨du,DK E.J⟩ E.J.row (DG (aq.W d2)) (Ao _)),h,g⟩
 have bk:t.k≠35:=CF bk;refine Aw (fun bj=>?_) fun bj=>?_
 ·have bj:t.k=36:=AH bj
  obtain ⟨hl,z0⟩:=VH bj hx;have be:=az 0 O;have ef:=zL (F:=F) (S:=S) bj hl;refine Dx (Re X n0 [b5]) [3,3,0,3,0,0,1,1,0,3,1,3,1] [0,0,2,6,14,0,63,127,0,255,767,2047,4095] CG Ag [0,1,2,3,4,5,6,7,8,9,10,11,12] J ?_;refine Da fun g E h=>?_;have aa:=aa.A (G.drew _);refine As 0 J J (Bm J) (As 1 J J (fun _=>AB AY (Ab J)) (Bb 2 J J (fun w1 hx=>AZ Bh (Ab J) (fun _=>(E.g2.al hx J (O4 (E.ne 2 0 J J J) Pw)).y J)) (?_)));obtain ⟨hpe,f4,f7,hcell,ad⟩:=Ba aa (i:=0) O;refine As 3 J J (fun _=>CS AC (Ab J) Bd (fun _=>O) (fun _=>hpe)) (Bb 4 J J (fun w1 hx=>A8 A3 (Ab J) J (fun _=>by first|exact hcell.kn hx|exact hcell.gt hx (Gi aa (i:=0) O)|exact hcell.al hx (Gi aa (i:=0) O) (by have:=Gi aa (i:=0) O;simp;omega))) (Bb 5 J J (fun w1 hx=>A8 Cf IV J (fun _=>by first|exact h.laid.hC.1.kn hx|exact h.laid.hC.1.kb hx (by have:=h.laid.hG;omega)|exact h.laid.hC.1.gt hx (by have:=h.laid.hG;omega)|exact h.laid.hC.1.al hx (by have:=h.laid.hG;omega) (by have:=h.laid.hG;simp;omega))) (Bb 8 J J (fun w1 hx=>A8 Cf IV J (fun _=>by first|exact h.laid.hC.2.2.2.2.1.kn hx|exact h.laid.hC.2.2.2.2.1.kb hx (by have:=h.laid.hG;omega)|exact h.laid.hC.2.2.2.2.1.gt hx (by have:=h.laid.hG;omega)|exact h.laid.hC.2.2.2.2.1.al hx (by have:=h.laid.hG;omega) (by have:=h.laid.hG;simp;omega))) (AW 6 J J ?_))));refine Bt (L':=[7,9,10,11,12]) [3,3,0,3,0,0,2,1,0,3,2,3,2] J J J ?_
  refine EL J KZ J J J (K0 (k:=1) (KE 0 O z0) (J8 F _) BT [b3,b4,b5] h he hc ad hb O (E.Q Br) g.size) ((fun ch w' hz=>Dm.pass hz (by rw [ef];exact Bg.refl _) (Ao _) g)) ?_;rintro i1 gl ⟨⟨gh,hr,rfl,dq,ap⟩,c0,eW,h,c7⟩;refine EZ c7 fun g E=>?_;rw [eW] at c0 ef;refine Bs (FT.ar c7) ?_;refine AW 7 J J ?_;refine Bt (L':=[9,10,11,12]) [3,3,0,3,0,0,2,1,0,3,2,3,2] J J J ?_;refine Ck fun _ _ b2 ez g E=>?_;have fb:=h;have e8:=b2.H.lt;have ap:=ap.new b2;have h:=h.A (b2.g);refine Bs (FT.Y (b2.g)) ?_;refine As 9 J J (fun _=>AB AY (Ab J)) (AW 10 J J ?_);refine Bt (L':=[11,12]) [3,3,0,3,0,0,2,1,0,3,2,3,2] J J J ?_;refine AS fun _ bs Ca g E=>?_;have h:=h.C bs Ca O Gl
  have ap:=ap.C bs Ch;refine Bs (FT.ag bs BR) ?_;refine As 11 J J (fun _=>AB Fg (Ab J)) (AW 12 J J ?_);refine Bt (L':=[]) [3,3,0,3,0,0,2,1,0,3,2,3,2] J J J ?_;refine Df J ET (Ab J) (Ab J) J J E.U J J ?_;intro ix aw _ BS;have C5:=E.U;replace E:=E.s1 aw BS;have g:=Cw g aw O;have h:=h.C aw C5 O Gl
  have ap:=ap.C aw Ch;refine Bs (FT.ag aw BR) ?_;refine Dt [4,5] ?_;refine Cz fun _ ga Ca g E h=>?_
  have ap:=ap.C ga Ch;refine AN ?_;rw [ef];exact ⟨c0,BO (t:=AF t [_] ⟨6,[]⟩) rfl (Ec (ks:=[_]) ⟨ez,DK E.J⟩ E.J.row (DG (ap.W dq)) (Ao _)),h,g⟩
 have bj:t.k≠36:=CF bj;refine Aw (fun bn=>?_) fun bn=>?_
 ·have bn:t.k=34:=AH bn
  have ef:=wU (F:=F) (S:=S) bn;refine Ad ?_;refine Dx (Ej none) [3,3,3,0,3,0,0,3,0,1] [0,1,3,7,0,16,63,0,128,511] CG Ag [0,1,2,3,4,5,6,7,8,9] J ?_;refine Da fun g E h=>?_;obtain ⟨fv,ms,mg,mn,mf,pv,sv,cv,rv,vs,sc,hK⟩:=id h;refine As 0 J J (Bm J) (As 1 J J (fun _=>FZ (Ab J)) (As 2 J J (fun _=>AB Uy (Ab J)) (Bb 3 J J (fun w1 hx=>AZ TU (Ab J) (fun _=>(hK.B.C hx DD).y J)) (As 4 J J (fun _=>AB E2 (Ab J)) (Bb 5 J J (fun w1 hx=>AZ DW (Ab J) (fun _=>(E.g2.C hx DD).y J)) (Bb 6 J J (fun w1 hx=>Xc (hK.T.hs.C hx DD) (Ab J) (Ab J)) (As 7 J J (fun _=>AB H7 (Ab J)) (Bb 8 J J (fun w1 hx=>AZ Cb (Ab J) (fun _=>(E.g2.C hx DD).y J)) (AW 9 J J ?_)))))))));refine Bt (L':=[]) [3,3,3,0,3,0,0,3,0,1] J J J ?_;refine EL J G1 J J J (GS _ _ _ _) ((fun ch w' hz=>IC h he BT (by rw [ef];exact Bg.refl _) hz g (Ao _))) ?_;rintro iu iz ⟨rfl,dj,bc⟩;refine ⟨fun _=>bc,?_⟩;have g:=BZ g bc;replace E:=E.A bc;have h:=h.A (bc);rw [dj] at ef;refine Bs ((bc).O _) ?_;refine Ke [(3,_,_),(4,_,_),(5,_,_)] Bp (FW (Al (Au (AE E2 J (AM DW J (E.g2.y J) (Hg FF Ia (Bk J (Bk J CH)) J J (AE Fg J (Df J ET (Ab J) (Ab J) J J E.J J J ?_))))))));intro ig bo _ BS;have C5:=E.J;replace E:=E.s0 bo BS;have g:=Cw g bo O;have h:=h.C bo C5 O Gl
  refine Cz fun _ ga Ca g E h=>?_
  refine AN ?_;rw [ef];exact ⟨he,BO (t:=AF t [] ⟨4,t.o⟩) rfl (IL _ _),h,g⟩
 have bn:t.k≠34:=CF bn;refine Aw (fun bf=>?_) fun bf=>?_
 ·have bf:t.k=30:=AH bf
  have ef:=tG (F:=F) (S:=S) bf;refine Ad ?_;refine G0 J lD J J (D1.to (KK bf) [b3,b4,b5] h he hc aa hb hn (E.Q Br) g.size) ((fun ch w' hz=>Dm.pass hz (by rw [ef];exact Bg.refl _) (Ao _) g)) ?_;rintro ik i3 ⟨⟨jf,gu,rfl,e3,cp⟩,dl,h,ei⟩;refine EZ ei fun g E=>?_;refine Cz fun _ ga Ca g E h=>?_
  have cp:=cp.C ga Ch;refine AN ?_;rw [ef];exact ⟨dl,BO rfl (cp.W e3),h,g⟩
 exfalso;have bf:t.k≠30:=CF bf;have:=sP hx h1 h2 h3 h4 bf h5 h6 bn;simp only [Bu,DQ,or_false] at this;omega;done
theorem oQ{t:Nd}(h:L9 t=true)(h9:t.k=9):t.j=[]:=by
 rw [← Tj,Nb,h9] at h;have h:(D2 t || GU t)=true:=h;rw [Bool.or_eq_true] at h;exact List.length_eq_zero_iff.1 (IB (h.resolve_left fun q=>ZN q h9)).2.2
structure Ul (F t:Nd):Prop where
  ex:BN t=true→D1 1000000 F 113 t (Af F t).ex
  st:D2 t=true→D1 1000000 F 87 t (Af F t).st
  cs:Jv t=true→OP F t
  M:Eh t=true→D1 1000001 F 57 t (Af F t).M
theorem Abs{F:Nd}(HF:MZ F):∀ (n:Nat) (t:Nd),count t≤n→Ul F t:=by
 intro n
 induction n with
 | zero=>intro t h;exact absurd h (by have:=JY t;omega)
 | succ n ihn =>
  intro t hc;have K:∀ i,i<t.j.length→Ul F (Aa t i):=fun i h=>ihn _ (by have:=HH h;omega);have K2:∀ i,i<t.j.length→∀ j,j<(Aa t i).j.length→Ul F (Aa (Aa t i) j):=fun i h j hj=>ihn _ (by have:=HH h;have:=HH hj;omega);have HS:Eh t=true→D1 1000001 F 57 t (Af F t).M:=fun hb=>@Aed F t fun i hi=>(K i hi).st (Hz (L6 hb) hi);have HB:Eh t=true→D1 1000000 F 116 t (Af F t).H:=fun hb=>@Aci F t (HS hb)
  have HK:BN t=true→t.k=30→D1 1000000 F 141 t (Jf t (Av F t)):=fun hx h=>by
   obtain ⟨hl,ha⟩:=WW h hx;have HE:∀ i,i<t.j.length→D1 1000000 F 113 (Aa t i) (Af F (Aa t i)).ex:=fun i hi=>(K i hi).ex (Hz ha hi);have ac:BN (Aa t 0)=true:=Hz ha O;refine @lM F t hl (@Acx F _ HF (J8 F _) (HE 0 O) (fun aa=>by have:=(Og aa ac).2.1;omega) fun aa ad=>?_) HE (fun i=>J8 F _);obtain ⟨_,l0,y0⟩:=Og aa ac;obtain ⟨_,l1,y1⟩:=Og ad y0;refine ⟨O,?_⟩;have c1:=HH (t:=t) (i:=0) O;have c2:=HH (t:=Aa t 0) (i:=0) O;have c3:=HH (t:=Aa (Aa t 0) 0) (i:=0) O;exact @Ul.ex F _ (ihn _ O) y1
  have HX:BN t=true→D1 1000000 F 113 t (Af F t).ex:=fun hx=>@oW F t HF hx (fun i hi q=>(K i hi).ex q) (fun h=>by
   obtain ⟨hl,hb⟩:=Q3 h hx;exact (K 0 O).M hb) (HK hx)
  have HT:D2 t=true→D1 1000000 F 87 t (Af F t).st:=fun hx=>@xO F t hx (fun i hi q=>(K i hi).ex q) (fun i hi q=>(K i hi).st q) (fun i hi q=>(K i hi).cs q) HB
  have HC:Jv t=true→OP F t:=fun hx=>by
   obtain ⟨_,hl,ab,hb⟩:=UN hx;exact @Afe F t hl (oQ ab) (fun h9=>(K 0 O).st ((Xm ab).resolve_left h9)) ((K 1 O).M hb)
  exact ⟨HX,HT,HC,HS⟩
theorem WT{t:Nd}(h:t.k=10):(Iw t).1=(Iw t).2:=by rw [ND];unfold Na;rw [h];rfl
theorem bJ(t:Nd)(i:Nat)(h:i<t.j.length):(t.j.map Iw).getD i (false,false)=Iw (Aa t i):=by
 rw [Em h];simp [Ez,Ei h]
theorem Aeh{l:List Nd}(hl:l≠[]):((l.map Iw).getLast?.getD (false,false))=Iw (l.getLast hl):=by
 rw [List.getLast?_map,List.getLast?_eq_some_getLast hl];rfl
theorem cC{t:Nd}(h:t.k=18)(hl:t.j.length=3):(Iw t).1=((Iw (Aa t 1)).2&&((Ac ((Aa t 2).k=10)&&(Iw (Aa t 2)).2) || (Ac ((Aa t 2).k=18)&&(Iw (Aa t 2)).1))):=by
 rw [ND];unfold Na;rw [h];show (((t.j.map Iw).getD 1 (false,false)).2&&((Ac ((Aa t 2).k=10)&&((t.j.map Iw).getD 2 (false,false)).2) || (Ac ((Aa t 2).k=18)&&((t.j.map Iw).getD 2 (false,false)).1)))=_;rw [bJ t 1 O,bJ t 2 O]
def I4(l:List Nd):Nd:=.mk 0 [] 0 0 l Az 0 0
theorem Yd{l:List Nd}(h:0<l.length):HO l=(Iw (Aa (I4 l) (l.length-1))).1∧Aa (I4 l) (l.length-1)∈l:=by
 have hl:l≠[]:=by intro e;subst e;simp at h
 have e:Aa (I4 l) (l.length-1)=l.getLast hl:=by
  rw [Em (show l.length-1<(I4 l).j.length from (by show _<l.length;omega)),List.getLast_eq_getElem];rfl
 rw [e];exact ⟨by unfold HO;rw [Aeh hl],List.getLast_mem hl⟩
theorem Y2{l:List Nd}{t:Nd}(h:t∈l):count t≤(l.map count).sum:=by
 have h1:=MW (t:=I4 l) (k:=t) h;rw [J7 (I4 l)] at h1;have:(I4 l).j=l:=rfl;rw [this] at h1;omega
theorem Nn(t:Nd):(t.j.map count).sum<count t:=by rw [J7 t];omega
theorem YQ(t:Nd):HO [t]=(Iw t).1:=rfl
theorem mU{k:Nd}(h:Eh k=true∨HY k=true∨GU k=true)(e:k.k≠9):D2 k=true :=
 h.elim TX fun h=>h.elim Zc fun h=>absurd (IB h).1 e
theorem pU{t:Nd}(h5:t.k=18)(hl:t.j.length=3)(h:Eh (Aa t 2)=true∨HY (Aa t 2)=true∨GU (Aa t 2)=true):(Iw t).1=((Iw (Aa t 1)).2&&(!Ac ((Aa t 2).k=9)&&(Iw (Aa t 2)).1)):=by
 rw [cC h5 hl];refine congrArg _ ?_;rcases h with h|h|h;have e:=Mm h;rw [e,WT e];show ((true&&_) || (false&&_))=(!false&&_);simp;have e:(Aa t 2).k=18:=AH (Dr.1 h).1;rw [e];rfl;have e:=(IB h).1;rw [e];rfl
theorem Wm(F p:Nd)(S:Ak):∀ i,(Dc F p S i).1.length=i
 | 0=>rfl
 | i+1=>by
  show ((Dc F p S i).1++[_]).length=_;rw [Cj,Wm F p S i];rfl
theorem Uw(F p:Nd)(S:Ak):∀ i,BW i S (Dc F p S i).2
 | 0=>BW.refl S
 | i+1=>((Uw F p S i).trans (RR _ _ _ _)).trans (SD _ _ _)
theorem Adk(S:Ak):EO (C9 S) 0:=⟨Ao _,Ao _,fun k hk=>by
 have:k∈[0]:=hk;simp at this;omega,by show (0:Nat)<1;decide,Ao _,fun v hv=>by cases hv⟩
theorem iC{S:Ak}{N:Nat}(h:EO S N)(y:Bo):EO { S with E:=y } N:=⟨h.vl,h.nl,h.nx,h.lv,h.sc,h.vs⟩
theorem XF(F p:Nd)(S:Ak)(i:Nat):EO (Dc F p (C9 S) i).2 i:=by
 have:=(Uw F p (C9 S) i).bd _ (Adk S);rwa [Cq] at this
theorem Xz(F n:Nd)(S:Ak):EO (Gs F n S) (Aa n 0).j.length:=by
 have h1:EO (Lz F n S) (Aa n 0).j.length:=iC (XF F _ S _) _;unfold Gs;cases Ac ((Aa n 1).k=9);exact iC ((SD F (Aa n 1) (Lz F n S)).bd _ h1) _;exact h1
set_option maxHeartbeats 2000000
theorem Afk{w:Ae}{D:Nat→Prop}{t:Nd}{p:Option Addr}{c:Nat}(hk:Bv w D t.j (.slice p t.j.length c))(hl:t.j.length=3):p=some ⟨E5 p,Gu p,none⟩∧Bv w D [Aa t 2] (.slice (some ⟨E5 p,if c=(2:Int).toNat then Gu p else Gu p+(2:Int).toNat*9,none⟩) (t.j.length-(2:Int).toNat) (c-(2:Int).toNat)):=by
 obtain ⟨e0,p2,c2,ac,aa⟩:=Ba hk (i:=2) O;have hD:=Gi hk (show 0<t.j.length by omega);obtain ⟨p',c',hpe,hc,_⟩:=hk;injection hpe with hpe _ ab;subst hpe ab;have h2:(2:Int).toNat=2:=rfl;refine ⟨e0,_,c-(2:Int).toNat,by rw [hl];rfl,by show 1≤_;omega,fun h0=>⟨_,_,rfl,hD,?_⟩⟩;rw [CN O];exact ⟨_,ac,DG aa⟩
theorem ZC(n:Nat):∀ (l:List Nd) (v:Aj) (D:Nat→Prop) (w:Ae),Bv w D l v→l.all D2=true→(l.map count).sum<n→n≤1000001→Bz An 58 #[v] w fun r w'=>r = .bool (HO l)∧G w w':=by
 induction n with
 | zero=>intro l v D w _ _ h _;omega
 | succ n ih =>
 intro l v D w af hl hc hn;obtain ⟨p,c,rfl,_⟩:=id af
 have aq:l.length≤1000000:=by
  have:=ED (I4 l);rw [J7 (I4 l)] at this;have h2:(I4 l).j=l:=rfl;rw [h2] at this;omega
 have g:=G.refl w;refine Cu 52 [0] Tryz.func58 ?_;refine Aw (fun h1=>?_) fun h1=>?_;have h1:l=[]:=List.eq_nil_of_length_eq_zero (by have:=AH h1;omega);subst h1;refine Am (Au (Bj J (Ai (Al (Dl (Fp J J ?_))))));exact ⟨rfl,g⟩;have h1:0<l.length:=by have:=CF h1;omega
 obtain ⟨t,et⟩:∃ t,t=Aa (I4 l) (l.length-1):=⟨_,rfl⟩;obtain ⟨e0,pt,ct,hcell,aa⟩:=Ba (t:=I4 l) af (i:=l.length-1) (by show _<l.length;omega);rw [← et] at hcell aa;obtain ⟨eE,hm⟩:=Yd h1;rw [← et] at eE hm;have ht:=CC.1 hl _ hm;have ap:=Y2 hm;have eN:((l.length:Int)-1).toNat=l.length-1:=by omega
 refine CJ (Al (Am (Au (Ap J (Ap J (EI AC J (AR J (fun _=>Jy (Ab J) Bd (fun _=>O)) (Dk AC J J O e0 (Ct A3 J J (by rw [eN];exact hcell.A g) (Pu fun _ _ _ _ g E=>?_))))))))));refine AS fun _ _ _ g E=>?_;refine Aw (fun h2=>?_) fun h2=>?_;have h2:t.k=20:=AH h2;refine AN ?_;exact ⟨by rw [eE,ND];unfold Na;rw [h2];rfl,g⟩;have h2:t.k≠20:=CF h2;refine Am (Au (Fy J J (Bj J (Ai (Al (Cv J (fun h3=>?_) (fun h3=>?_)))))));have h3:t.k=19:=AH h3;have ao:=(RS h3 ht).1;obtain ⟨AU,p1,c1,ac,ad⟩:=Ba aa (i:=0) O;refine Am (Au (AE AY J (AM Bh J (E.J.y J) (Dk AC J J O AU (AE FP J (AM Cb J ((ac.A g).one (i:=0) J) (Fy J J (Bj J (Ai (Al (Dl (Fp J J ?_))))))))))));exact ⟨by rw [eE,ND];unfold Na;rw [h3];rfl,g⟩;have h3:t.k≠19:=CF h3;refine Aw (fun h4=>?_) fun h4=>?_;have h4:t.k=10:=AH h4;refine Ad ?_;refine DI (ih _ _ D _ (aa.A g) (L6 (R7 h4 ht)) (by have:=Nn t;omega) O) (DB fun an au g E=>?_);refine Bj J (Ai (Al (Dl (Fp J J ?_))));exact ⟨by rw [eE,WT h4,Ro],g⟩;have h4:t.k≠10:=CF h4;refine Am (Au (Fy J J (Bj J (Ai (Al (Cv J (fun h5=>?_) (fun h5=>?_)))))));have h5:t.k=18:=AH h5;obtain ⟨ab,_,ah,Ga⟩:=Sa (SH h5 ht);have al:=Sw ab;obtain ⟨AU,p1,c1,ac,ad⟩:=Ba aa (i:=1) O;obtain ⟨e2,p2,c2,aj,am⟩:=Ba aa (i:=2) O;obtain ⟨e3,ai⟩:=Afk aa ab
 refine Am (Au (AE AY J (AM Bh J (E.J.y J) (Dk AC J J O AU (AE AY J (AM Bh J ((ac.A g).one (i:=4) J) (F0 J (BF hU BX (Cn J CI) J) (ih _ _ D _ (ad.A g) (L6 ah) (by have:=Nn (Aa t 1);omega) O) (fun ak ag=>?_))))))));have g:=g.trans ag;replace E:=E.A ag;refine Ap J (Ay J J J (fun _=>AB AY (Ab J)) (BQ J J J (AZ Bh (Ah J id) (fun _=>E.J.y J)) (Ay J J J (fun _=>CS AC (Ah J id) Bd (fun _=>O) (fun _=>e2)) (Ay J J J (fun _=>AB FP (Ah J id)) (BQ J J J (AZ Cb (Ah J id) (fun _=>(aj.A g).one (i:=0) J)) (Ay J J J (fun _=>IA (Ah J id) Bd) (AR J (fun _=>Et (Ab J) (Ah J id)) (Ap J (Ay J J J (fun _=>AB AY (Ab J)) (BQ J J J (AZ Bh (Ah J id) (fun _=>E.J.y J)) (Ay J J J (fun _=>T7 AC (e3▸(Ah J id)) Bd (fun _=>O)) (Ff J J J (fun _=>(BF hU BX (CM (Ah J id) (DC)) J)) (fun hc=>ih [Aa t 2] _ D _ (ai.A g) (by simp [mU Ga (by have q:=hc.2;simp at q;exact q.2)]) (by show count (Aa t 2)+0<n;have:=JY (Aa t 1);omega) O) (fun ar ae=>?_)))))))))))));have g:=g.trans ae;replace E:=E.A ae;refine AN ?_;exact ⟨by rw [eE,pU h5 ab Ga,Ro,YQ,Bool.and_assoc],g⟩;have h5:t.k≠18:=CF h5;refine AN ?_;exact ⟨by rw [eE,ND];unfold Na;rw [Aq h2,Aq h3,Aq h4,Aq h5];rfl,g⟩
abbrev JR:=Bool×Int
@[reducible] def Ahj(c:JR):Aj:=.agg #[.bool c.1,.int .i64 c.2]
def Mr:JR×Bool:=((false,0),false)
def Od(b:Bool):JR×Bool:=((true,bif b then 1 else 0),true)
def P0(n:Int):JR×Bool:=((false,n),true)
def WI(op:List UInt8)(x y:JR):JR×Bool :=
 bif Ac (op=[61,61]) then Od (Ac (x.2=y.2))
 else bif Ac (op=[33,61]) then Od (!Ac (x.2=y.2))
 else bif x.1 then
  bif Ac (op=[38,38]) then Od (Ac (x.2=1)&&Ac (y.2=1))
  else bif Ac (op=[124,124]) then Od (Ac (x.2=1) || Ac (y.2=1))
  else Mr
 else bif Ac (op=[43]) then P0 (IntKind.i64.wrap (x.2+y.2))
 else bif Ac (op=[45]) then P0 (IntKind.i64.wrap (x.2-y.2))
 else bif Ac (op=[42]) then P0 (IntKind.i64.wrap (x.2*y.2))
 else bif Ac (op=[47]) then (bif !Ac (y.2=0) then P0 (IntKind.i64.wrap (x.2.tdiv y.2)) else Mr)
 else bif Ac (op=[37]) then (bif !Ac (y.2=0) then P0 (x.2.tmod y.2) else Mr)
 else bif Ac (op=[60]) then Od (Ac (x.2<y.2))
 else bif Ac (op=[60,61]) then Od (Ac (x.2≤y.2))
 else bif Ac (op=[62]) then Od (Ac (y.2<x.2))
 else bif Ac (op=[62,61]) then Od (Ac (y.2≤x.2))
 else Mr
def RT(t:Nd)(r:Nat→JR×Bool):JR×Bool :=
 bif Ac (t.k=24) then ((false,t.num),(Ac (0≤t.num)&&DH t)&&BV t 0)
 else bif Ac (t.k=25) then ((true,t.num),((Ac (t.num=0) || Ac (t.num=1))&&DH t)&&BV t 0)
 else bif Ac (t.k=31)&&BV t 1 then
  bif ((r 0).2&&Ac (t.o=[45])) && !(r 0).1.1 then P0 (IntKind.i64.wrap (0-(r 0).1.2))
  else bif ((r 0).2&&Ac (t.o=[33]))&&(r 0).1.1 then ((true,IntKind.i64.wrap (1-(r 0).1.2)),true)
  else Mr
 else bif Ac (t.k=32)&&BV t 2 then
  bif ((r 0).2&&(r 1).2)&&((r 0).1.1 == (r 1).1.1) then WI t.o (r 0).1 (r 1).1
  else Mr
 else Mr
def KH(t:Nd):JR×Bool:=Jx (fun t l=>RT t fun i=>l.getD i Mr) t
theorem Aee{α β:Type}(f:α→β)(l:List α)(i:Nat)(d:α):(l.map f).getD i (f d)=f (l.getD i d):=by
 simp only [Ez,List.getElem?_map];cases l[i]? <;> rfl
theorem rL:KH Fr=Mr:=by rw [KH,Lw];rfl
theorem Acf(t:Nd):KH t=RT t fun i=>KH (Aa t i):=by
 have h:∀ i,(t.j.map (Jx (fun t l=>RT t fun i=>l.getD i Mr))).getD i Mr=KH (Aa t i):=fun i=>by
  have:=Aee KH t.j i Fr;rw [rL] at this;exact this
 rw [KH,Lw];exact congrArg (RT t) (funext h)
@[reducible] def Aho(x:JR×Bool):Aj:=.tuple #[.int .i64 x.1.2,.bool x.1.1,.bool x.2]
@[reducible] def Ahg(n:Nat):Nat→Prop:=fun b=>n≤b
def Qv(t:Nd):Option JR:=bif (KH t).2 then some (KH t).1 else none
def ZG(t:Nd)(x:Option JR):Option JR:=match x with
 | some c=>bif Ac (t.o=[45]) && !c.1 then some (false,IntKind.i64.wrap (0-c.2)) else bif Ac (t.o=[33])&&c.1 then some (true,IntKind.i64.wrap (1-c.2)) else none
 | none=>none
def YM(op:List UInt8)(x y:Option JR):Option JR:=match x,y with
 | some a,some b=>bif a.1 == b.1 then (bif (WI op a b).2 then some (WI op a b).1 else none) else none
 | _,_=>none
def V8(t:Nd)(r:Nat→Option JR):Option JR :=
 bif Ac (t.k=24) then (bif (Ac (0≤t.num)&&DH t)&&BV t 0 then some (false,t.num) else none)
 else bif Ac (t.k=25) then (bif ((Ac (t.num=0) || Ac (t.num=1))&&DH t)&&BV t 0 then some (true,t.num) else none)
 else bif Ac (t.k=31)&&BV t 1 then ZG t (r 0)
 else bif Ac (t.k=32)&&BV t 2 then YM t.o (r 0) (r 1)
 else none
theorem Aca(t:Nd):Qv t=V8 t fun i=>Qv (Aa t i):=by
 rw [Qv,Acf,RT,V8]
 cases Ac (t.k=24) with
 | true=>rfl
 | false =>
 cases Ac (t.k=25) with
 | true=>rfl
 | false =>
 cases Ac (t.k=31)&&BV t 1 with
 | true =>
  simp only [AL,AQ,Qv,ZG]
  cases (KH (Aa t 0)).2 with
  | false=>rfl
  | true =>
   simp only [D4,AL];cases Ac (t.o=[45]) <;> cases Ac (t.o=[33]) <;> cases (KH (Aa t 0)).1.1 <;> rfl
 | false =>
 cases Ac (t.k=32)&&BV t 2 with
 | true =>
  simp only [AL,AQ,Qv,YM];cases (KH (Aa t 0)).2 <;> cases (KH (Aa t 1)).2 <;> first|rfl|skip
  simp only [D4,AL];cases (KH (Aa t 0)).1.1 == (KH (Aa t 1)).1.1 <;> rfl
 | false=>rfl
theorem Ahq{t:Nd}{c:JR}(h:Qv t=some c):t.k=24∨t.k=25∨(t.k=31∧t.j.length=1)∨(t.k=32∧t.j.length=2):=by
 rw [Aca,V8] at h;by_cases h1:t.k=24;exact .inl h1;by_cases h2:t.k=25;exact .inr (.inl h2);rw [Aq h1,Aq h2] at h
 cases h3:Ac (t.k=31)&&BV t 1 with
 | true =>
  rw [AA,BM] at h3;exact .inr (.inr (.inl ⟨h3.1,FE (h3.2)⟩))
 | false =>
  cases h4:Ac (t.k=32)&&BV t 2 with
  | true =>
   rw [AA,BM] at h4;exact .inr (.inr (.inr ⟨h4.1,FE (h4.2)⟩))
  | false=>rw [h3,h4] at h;cases h
def YZ(v:Dz):List UInt8×Bo×Nat×Nat:=(v.name,v.typ,v.D,v.w)
structure Kw (S T:Ak):Prop where
  F:T.F.map YZ=S.F.map YZ
  w:T.w=S.w
  D:T.D=S.D
  E:T.E=S.E
  es:S.ee=0
  et:T.ee=0
  sc:D3 S
structure mH (x y:Nd):Prop where
  ty:y.ty=x.ty
  ref:y.ref=x.ref
  kd:y.k=x.k∨(x.k≠27∧x.k≠28∧x.k≠29)
def wW(c c':FQ):Prop:=∀ S T,Kw S T→(c.ex S).2.ee=0→Kw (c.ex S).2 (c'.ex T).2∧mH (c.ex S).1 (c'.ex T).1
def kN(c c':FQ):Prop:=∀ S T,Kw S T→(c.N S).2.ee=0→Kw (c.N S).2 (c'.N T).2∧(c'.N T).1.2=(c.N S).1.2∧(c'.N T).1.1.ty=(c.N S).1.1.ty
def zV(c c':FQ):Prop:=∀ S T,Kw S T→((c.rcv S).2=true→(c'.rcv T).2=true∧(c'.rcv T).1.ty=(c.rcv S).1.ty)∧((c.rcv S).2=false→(c.ex S).2.ee=0→(c'.rcv T).2=false)
def Abh(c c':FQ):Prop:=∀ S T,Kw S T→(c.K S).2.ee=0→Kw (c.K S).2 (c'.K T).2∧(c'.K T).1.2=(c.K S).1.2
def Abe(c c':FQ):Prop:=∀ S T,Kw S T→(c.st S).2.ee=0→Kw (c.st S).2 (c'.st T).2
def vM(c c':FQ):Prop:=∀ S T,Kw S T→(c.M S).2.ee=0→Kw (c.M S).2 (c'.M T).2
def tD(c c':FQ):Prop:=∀ f S T,Kw S T→(c.cas f S).2.ee=0→Kw (c.cas f S).2 (c'.cas f T).2
def VG(k:Int)(c:FQ)(S:Ak):Ak:=bif Ac (k=10) then (c.H S).2 else bif Ac (k=18) then (c.ifs S).2 else S
def pH(k k':Int)(c c':FQ):Prop:=∀ S T,Kw S T→(VG k c S).ee=0→Kw (VG k c S) (VG k' c' T)
structure Ahh (k k':Int) (c c':FQ):Prop where
  ex:E7 k=true→wW c c'
  N:k=28→kN c c'
  rcv:E7 k=true→zV c c'
  K:E7 k=true→Abh c c'
  st:L5 k=true→Abe c c'
  M:k=10→vM c c'
  cas:k=23→tD c c'
  els:k=10∨k=18∨k=9→pH k k' c c'
structure Ahe (F:Nd):Prop where
  k:F.k=1
  perm:Cr F=true
  ok:Nx F
theorem QS{t:Nd}(hp:Cr t=true):(Ey t&&t.j.all Cr)=true:=by
 rw [Je,I6,AA,AA] at hp;exact Dr.2 ⟨hp.1.2,hp.2⟩
theorem U4{t:Nd}(h:IE t.k=true)(hp:Cr t=true):He t=true:=by rw [Ua,h,hp];rfl
theorem Afx{t:Nd}(h:t.k=9)(hp:Cr t=true):GU t=true:=by rw [Pq,BU h,hp];rfl
theorem OV{t:Nd}(h:t.k=4)(hp:Cr t=true):t.j.length=3∧((Aa t 0).k=5∧Cr (Aa t 0)=true)∧(He (Aa t 1)=true∨GU (Aa t 1)=true)∧((Aa t 2).k=10∧Cr (Aa t 2)=true):=by
 have hf:=QS hp;rw [Ey,h] at hf;have hf:(Fb t [CV [5],fun k=>IE k || CV [9] k,CV [10]]&&t.j.all Cr)=true:=hf;rw [Wp] at hf;simp only [AA,Kz,BM,Bool.or_eq_true] at hf;refine ⟨by have:=hf.1;(have hz:=this;first|(unfold BV at hz;simp at hz;omega)|(simp at hz;omega)),hf.2.1.1,?_,hf.2.2⟩;rcases hf.2.1.2.1 with q|q;exact .inl (U4 q hf.2.1.2.2);exact .inr (Afx q hf.2.1.2.2)
theorem SK{t:Nd}(h:t.k=6)(hp:Cr t=true):t.j.length=2∧He (Aa t 0)=true∧Cr (Aa t 1)=true:=by
 have hf:=QS hp;rw [Ey,h] at hf;have hf:(Fb t [IE,fun k=>E7 k || CV [9] k]&&t.j.all Cr)=true:=hf;rw [Ue] at hf;simp only [AA] at hf;exact ⟨by have:=hf.1;(have hz:=this;first|(unfold BV at hz;simp at hz;omega)|(simp at hz;omega)),U4 hf.2.1.1 hf.2.1.2,hf.2.2.2⟩
theorem OD{t:Nd}(h:t.k=3)(hp:Cr t=true):t.j.length=1∧He (Aa t 0)=true:=by
 have hf:=QS hp;rw [Ey,h] at hf;have hf:(Fb t [IE]&&t.j.all Cr)=true:=hf;rw [XX] at hf;simp only [AA] at hf;exact ⟨by have:=hf.1;(have hz:=this;first|(unfold BV at hz;simp at hz;omega)|(simp at hz;omega)),U4 hf.2.1 hf.2.2⟩
theorem Ns{t:Nd}(h:t.k=2∨t.k=5)(hp:Cr t=true):∀ f∈t.j,f.k=3∧Cr f=true:=by
 have hf:=QS hp;have hf:(HU t (CV [3])&&t.j.all Cr)=true:=by rcases h with h|h <;> (rw [Ey,h] at hf;exact hf)
 rw [AA,HU,CC,CC] at hf;intro f hm;have:=hf.1 f hm;rw [Kz,BM] at this;exact ⟨this,hf.2 f hm⟩
theorem dJ{P:AJ}{n:Nat}{σ:List Ce}{c:Prop}{wb:Ae}{ty:AD}{t kt e b:Nat}{x:Bl}{es:List (List UInt8×Aj)}(ht:P.underlying t=some (.map kt e))(h:Do wb b es)(hx:BI n σ c x (.map (some b))) :
 Db P n σ c wb (.call { callee:=.builtin .len,args:=#[x],argTypes:=#[t] }) ty (.int .i64 es.length):=.mk fun d pos after gd aa ha hc w1 hg=>by
 obtain ⟨ms,cl,hb,hm⟩:=h.A hg
 have hl:ms.size=es.length:=by
  have:=congrArg List.length hm;rwa [EY,EY,Array.length_toList] at this
 simp [execOp,resolve,invoke,builtin,hx aa ha hc,Builtin.len_,run_underlying ht,MapKept.run_getObj_map hb,goInt,hl]
theorem WS{F:Nd}(h:Hf F=true):F.k=1∧Cr F=true:=by
 unfold Hf at h;simp only [AA] at h;unfold Lb at h;simp only [AA,BM] at h;exact ⟨h.1,h.2.1⟩
theorem WE{F:Nd}(h1:F.k=1)(hp:Cr F=true):∀ d∈F.j,(d.k=2∨d.k=6∨d.k=4)∧Cr d=true:=by
 have hf:=QS hp;rw [Ey,h1] at hf;have hf:((!(F.j.any Lj)&&HU F (CV [2,6,4]))&&F.j.all Cr)=true:=hf;simp only [AA,HU,CC] at hf;exact fun d hm=>⟨by have:=hf.1.2 d hm;unfold CV at this;simpa using this,hf.2 d hm⟩
theorem NY{t:Nd}{i:Nat}(h:i<t.j.length):Aa t i∈t.j:=by rw [Em h];exact List.getElem_mem h
theorem XV{t:Nd}{i:Nat}(h:i<t.j.length):t.j.take (i+1)=t.j.take i++[Aa t i]:=by
 rw [Em h,E8 h]
theorem WK{F:Nd}{S:Ak}:∀ {i:Nat},(∀ j,j<i→Ge F j=false)→FV F S i=S
 | 0,_=>rfl
 | i+1,h=>by
  show AG (!Ge F i) _ 6 (FV F S i)=S;rw [h i O,WK fun j hj=>h j O];rfl
theorem Za(F:Nd)(S:Ak)(i:Nat):∀ k,Bg (FV F S i) (FV F S (i+k))
 | 0=>Bg.refl _
 | k+1=>(Za F S i k).I _ _ _
theorem pL{F:Nd}{S:Ak}(he:S.ee=0){i n:Nat}(hi:i<n)(h0:∀ j,j<i→Ge F j=false)(h:Ge F i=true):(FV F S n).ee=6∧(FV F S n).ea=(Aa F i).z:=by
 have e:FV F S (i+1) = { S with ea:=(Aa F i).z,ee:=6 }:=by
  show AG (!Ge F i) _ 6 (FV F S i)=_;rw [h,WK h0];exact LB he _ _
 have k:=Za F S (i+1) (n-(i+1));rw [show i+1+(n-(i+1))=n by omega,e] at k;exact k (show (6:Int)≠0 by decide)
theorem dO(kd:Int)(f:Nat→Nd→Aj){F:Nd}{i:Nat}(h:i<F.j.length):DR kd f (F.j.take (i+1)) 0=DR kd f (F.j.take i) 0++(bif Ac ((Aa F i).k=kd) then [((Aa F i).o,f (Gy kd (F.j.take i)) (Aa F i))] else []):=by
 rw [XV h,Xv,Cq]
theorem Oo(kd:Int)(f:Nat→Nd→Aj){F:Nd}{i:Nat}(h:i<F.j.length)(hk:(Aa F i).k≠kd):DR kd f (F.j.take (i+1)) 0=DR kd f (F.j.take i) 0:=by
 rw [dO kd f h,Aq hk];exact List.append_nil _
theorem TW{kd:Int}(f:Nat→Nd→Aj){F:Nd}{i:Nat}(h:i<F.j.length)(hk:(Aa F i).k=kd):DR kd f (F.j.take (i+1)) 0=DR kd f (F.j.take i) 0++[((Aa F i).o,f (Gy kd (F.j.take i)) (Aa F i))]:=by
 rw [dO kd f h,BU hk];rfl
theorem Uk{F:Nd}{i:Nat}(h:i<F.j.length):KI (F.j.take (i+1))=KI (F.j.take i)++[((Aa F i).o,.bool true)]:=by
 rw [XV h];unfold KI;rw [E0];rfl
theorem XY{kd:Int}{f g:Nat→Nd→Aj}:∀ (l:List Nd) (k:Nat),(∀ j d,j<k+Gy kd l→f j d=g j d)→DR kd f l k=DR kd g l k
 | [],k,h=>rfl
 | d::l,k,h=>by
  unfold DR;cases hd:Ac (d.k=kd);exact XY (kd:=kd) l k fun j e hj=>h j e (by rw [Pj kd,hd];show j<k+(0+Gy kd l);omega);have h1:=XY (kd:=kd) (f:=f) (g:=g) l (k+1) fun j e hj=>h j e (by rw [Pj kd,hd];show j<k+(1+Gy kd l);omega);have h2:=h k d (by rw [Pj kd,hd];show k<k+(1+Gy kd l);omega);rw [h1,h2];rfl
theorem tI{F:Nd}{i:Nat}(h:Ge F i=false):∀ d∈F.j.take i,d.o≠(Aa F i).o:=fun d hd e=>by
 unfold Ge at h;rw [List.any_eq_false] at h;exact h d hd (BU e)
theorem Sl{F:Nd}{i:Nat}(h:Ge F i=false)(kd:Int)(f:Nat→Nd→Aj):GW (DR kd f (F.j.take i) 0) (Aa F i).o=none:=XM (tI h)
theorem dE{F:Nd}{i:Nat}(h:Ge F i=false):GW (KI (F.j.take i)) (Aa F i).o=none:=by
 rw [jE];unfold Ge at h;rw [h];rfl
theorem nI{F:Nd}{kd:Int}{j i:Nat}(hj:j<i)(hi:i≤F.j.length)(hk:(Aa F j).k=kd):Gy kd (F.j.take j)<Gy kd (F.j.take i):=by
 have h1:Gy kd (F.j.take (j+1))=Gy kd (F.j.take j)+1:=by
  rw [XV O,nF,BU hk];rfl
 have h2:Gy kd (F.j.take (j+1))≤Gy kd (F.j.take i):=by
  unfold Gy;exact ((List.take_sublist_take_left O).filter _).length_le
 omega
theorem UJ(kd:Int)(s:List UInt8):∀ (l:List Nd) (k:Nat),0≤(GI kd s l k).2→∃ j,∃ h:j<l.length,l[j].k=kd∧(GI kd s l k).1=l[j]∧(GI kd s l k).2.toNat=k+Gy kd (l.take j)
 | [],k,h=>absurd h (show ¬ (0:Int)≤-1 by decide)
 | d::l,k,h=>by
  unfold GI at h ⊢;cases hd:Ac (d.k=kd);rw [hd,AQ] at h;obtain ⟨j,hj,h1,h2,h3⟩:=UJ kd s l k h;exact ⟨j+1,by simp;omega,h1,h2,by rw [F3,Pj,hd];show _=k+(0+_);rw [Cq];exact h3⟩;rw [hd,AL] at h;cases hs:Ac (d.o=s);rw [hs,AQ] at h;obtain ⟨j,hj,h1,h2,h3⟩:=UJ kd s l (k+1) h;exact ⟨j+1,by simp;omega,h1,h2,by rw [F3,Pj,hd];show _=k+(1+_);rw [← Nat.add_assoc];exact h3⟩;exact ⟨0,by simp,AH hd,rfl,by show (k:Int).toNat=k+0;omega⟩
section
variable {w w':Ae} {TB:List Nat} {l:List Bo} {v:Aj}
theorem EH.aj{m:Nat}{es:List (List UInt8×Aj)}(h:EH TB w l v)(hM:Do w m es)(hg:w.grownBy w' (some m)):EH TB w' l v:=h.ac fun k _ hk ⟨cs,fr,hc⟩=>hg.block k hk fun e=>by
 injection e with e;subst e;obtain ⟨ms,c,hb,_⟩:=hM;rw [hb] at hc;injection hc with hc;cases hc
theorem EH.bn{j:Nat}{e:AD}{xs:List Aj}(h:EH TB w l v)(hB:Ax w j e xs)(he:Du e 24=false)(hg:w.grownBy w' (some j)):EH TB w' l v:=h.ac fun k _ hk ⟨cs,fr,hc⟩=>hg.block k hk fun e=>by
 injection e with e;subst e;unfold Ax at hB;rw [hB] at hc;injection hc with hc;injection hc with _ hc;subst hc;simp at he
theorem EH.bq{row:Option Nat}(h:EH TB w l v)(hr:∀ k,row=some k→k∉TB)(hg:w.grownBy w' row):EH TB w' l v:=h.ac fun k hk aa _=>hg.block k aa fun e=>hr k e.symm hk
theorem EH.mono{Y:List Nat}(h:EH TB w l v)(hY:∀ j∈TB,j∈Y):EH Y w l v:=by
 obtain ⟨p,c,e,h⟩:=h;refine ⟨p,c,e,fun h0=>?_⟩;obtain ⟨b,o,cs,fr,h1,h2,h3⟩:=h h0;exact ⟨b,o,cs,fr,h1,hY b h2,h3⟩
theorem Abl{lo:Nat}(h:w.ownsRow lo 24 2 v l.length (l.flatMap Ek)):EH v.ownBlock.toList w l v:=by
 obtain ⟨a,c,hv,_⟩:=IJ h;refine ⟨a,c,hv,fun h0=>?_⟩;obtain ⟨g,c',aa,_,hR,_⟩:=LU h h0;rcases h.2 with ⟨h1,_⟩|⟨g',ab,ac,h1,h2,h3,_⟩;rw [aa] at h1;injection h1 with h1;cases h1;rw [aa] at h1;injection h1 with h1 _ _;injection h1 with h1;injection h1 with h1 _ _;subst h1;rw [hv] at aa;injection aa with aa _ _;subst aa;exact ⟨g,0,_,_,rfl,by rw [hv];exact List.mem_singleton.2 rfl,h3,hR⟩
end
structure F6 (F:Nd) (n0 b:Nat) (fv:Aj) (ms mg mn mf m2:Nat) (pv:Nat→Aj) (TB:List Nat) (es eg en ef eq:List (List UInt8×Aj)) (i:Nat) (w:Ae):Prop where
  B:Ax w b 59 (LS F fv ms mg mn mf (.slice none 0 0) (.slice none 0 0) (.slice none 0 0))
  hs:Do w ms es
  hg:Do w mg eg
  hn:Do w mn en
  hf:Do w mf ef
  hq:Do w m2 eq
  hp:∀ j,j<i→(Aa F j).k=4→EH TB w (Jq (Aa F j)) (pv (Gy 4 (F.j.take j)))
  tb:∀ j∈TB,n0≤j∧j<w.heap.size
  ds:(ms≠mg∧ms≠mn∧ms≠mf∧ms≠m2)∧(mg≠mn∧mg≠mf∧mg≠m2)∧(mn≠mf∧mn≠m2)∧mf≠m2
section
variable {F:Nd} {n0 b:Nat} {fv:Aj} {ms mg mn mf m2:Nat} {pv:Nat→Aj} {TB:List Nat} {es eg en ef eq es' eg' en' ef' eq':List (List UInt8×Aj)} {i:Nat} {w w':Ae}
theorem F6.fr(h:F6 F n0 b fv ms mg mn mf m2 pv TB es eg en ef eq i w)(hz:w.heap.size≤w'.heap.size)(hB:w'.heap[b]? = w.heap[b]?)(hP:∀ l v,EH TB w l v→EH TB w' l v)(s:Do w' ms es')(g:Do w' mg eg')(n:Do w' mn en')(f:Do w' mf ef')(q:Do w' m2 eq'):F6 F n0 b fv ms mg mn mf m2 pv TB es' eg' en' ef' eq' i w' :=
 ⟨hB.trans h.B,s,g,n,f,q,fun j hj hk=>hP _ _ (h.hp j hj hk),fun j hj=>⟨(h.tb j hj).1,A2 (h.tb j hj).2 hz⟩,h.ds⟩
theorem F6.A(h:F6 F n0 b fv ms mg mn mf m2 pv TB es eg en ef eq i w)(g:G w w'):F6 F n0 b fv ms mg mn mf m2 pv TB es eg en ef eq i w' :=
 h.fr g.size (g.block h.B.lt) (fun _ _ k=>k.A g) (h.hs.A g) (h.hg.A g) (h.hn.A g) (h.hf.A g) (h.hq.A g)
theorem F6.C(h:F6 F n0 b fv ms mg mn mf m2 pv TB es eg en ef eq i w){j:Nat}{e:AD}{xs:List Aj}(hg:w.grownBy w' (some j))(hB:Ax w j e xs)(he:(Du e 24 || Du e 59)=false):F6 F n0 b fv ms mg mn mf m2 pv TB es eg en ef eq i w':=by
 have he:=Gc.1 he;have m:∀ {m es},Do w m es→Do w' m es:=fun hm=>hm.C hg fun q=>hm.ao hB (by injection q);exact h.fr hg.size (hg.block b h.B.lt fun q=>by injection q with q;subst q;unfold Ax at hB;have:=h.B;unfold Ax at this;rw [this] at hB;injection hB with hB;injection hB with _ hB;subst hB;simp at he) (fun _ _ k=>k.bn hB he.1 hg) (m h.hs) (m h.hg) (m h.hn) (m h.hf) (m h.hq)
theorem F6.aa(h:F6 F n0 b fv ms mg mn mf m2 pv TB es eg en ef eq i w){lo z m:Nat}{v:Aj}{xs:List Aj}(ho:w.ownsRow lo 24 z v m xs)(hg:w.grownBy w' v.ownBlock)(aa:∀ j∈TB,j<lo):F6 F n0 b fv ms mg mn mf m2 pv TB es eg en ef eq i w':=by
 have mm:∀ {m es},Do w m es→Do w' m es:=fun hm=>hm.C hg fun q=>by
  obtain ⟨ms,c,hb,_⟩:=hm;rcases ho.2 with ⟨h1,_⟩|⟨g,ab,ac,h1,h2,h3,_⟩;rw [h1] at q;cases q;rw [h1] at q;injection q with q;subst q;rw [hb] at h3;injection h3 with h3;cases h3
 exact h.fr hg.size (hg.block b h.B.lt fun q=>DY ho h.B rfl q.symm) (fun _ _ k=>k.bq (fun j hj hm=>by have:=(ho.lt j hj).1;have:=aa j hm;omega) hg) (mm h.hs) (mm h.hg) (mm h.hn) (mm h.hf) (mm h.hq)
theorem Fi{a c:Nat}(h:a≠c):some a≠some c:=fun e=>h (by injection e)
theorem F6.us(h:F6 F n0 b fv ms mg mn mf m2 pv TB es eg en ef eq i w)(hg:w.grownBy w' (some ms))(m:Do w' ms es'):F6 F n0 b fv ms mg mn mf m2 pv TB es' eg en ef eq i w' :=
 h.fr hg.size (hg.block b h.B.lt (Fi (h.hs.ao h.B).symm)) (fun _ _ k=>k.aj h.hs hg) m (h.hg.C hg (Fi h.ds.1.1.symm)) (h.hn.C hg (Fi h.ds.1.2.1.symm)) (h.hf.C hg (Fi h.ds.1.2.2.1.symm)) (h.hq.C hg (Fi h.ds.1.2.2.2.symm))
theorem F6.ug(h:F6 F n0 b fv ms mg mn mf m2 pv TB es eg en ef eq i w)(hg:w.grownBy w' (some mg))(m:Do w' mg eg'):F6 F n0 b fv ms mg mn mf m2 pv TB es eg' en ef eq i w' :=
 h.fr hg.size (hg.block b h.B.lt (Fi (h.hg.ao h.B).symm)) (fun _ _ k=>k.aj h.hg hg) (h.hs.C hg (Fi h.ds.1.1)) m (h.hn.C hg (Fi h.ds.2.1.1.symm)) (h.hf.C hg (Fi h.ds.2.1.2.1.symm)) (h.hq.C hg (Fi h.ds.2.1.2.2.symm))
theorem F6.un(h:F6 F n0 b fv ms mg mn mf m2 pv TB es eg en ef eq i w)(hg:w.grownBy w' (some mn))(m:Do w' mn en'):F6 F n0 b fv ms mg mn mf m2 pv TB es eg en' ef eq i w' :=
 h.fr hg.size (hg.block b h.B.lt (Fi (h.hn.ao h.B).symm)) (fun _ _ k=>k.aj h.hn hg) (h.hs.C hg (Fi h.ds.1.2.1)) (h.hg.C hg (Fi h.ds.2.1.1)) m (h.hf.C hg (Fi h.ds.2.2.1.1.symm)) (h.hq.C hg (Fi h.ds.2.2.1.2.symm))
theorem F6.uf(h:F6 F n0 b fv ms mg mn mf m2 pv TB es eg en ef eq i w)(hg:w.grownBy w' (some mf))(m:Do w' mf ef'):F6 F n0 b fv ms mg mn mf m2 pv TB es eg en ef' eq i w' :=
 h.fr hg.size (hg.block b h.B.lt (Fi (h.hf.ao h.B).symm)) (fun _ _ k=>k.aj h.hf hg) (h.hs.C hg (Fi h.ds.1.2.2.1)) (h.hg.C hg (Fi h.ds.2.1.2.1)) (h.hn.C hg (Fi h.ds.2.2.1.1)) m (h.hq.C hg (Fi h.ds.2.2.2.symm))
theorem F6.uq(h:F6 F n0 b fv ms mg mn mf m2 pv TB es eg en ef eq i w)(hg:w.grownBy w' (some m2))(m:Do w' m2 eq'):F6 F n0 b fv ms mg mn mf m2 pv TB es eg en ef eq' i w' :=
 h.fr hg.size (hg.block b h.B.lt (Fi (h.hq.ao h.B).symm)) (fun _ _ k=>k.aj h.hq hg) (h.hs.C hg (Fi h.ds.1.2.2.2)) (h.hg.C hg (Fi h.ds.2.1.2.2)) (h.hn.C hg (Fi h.ds.2.2.1.2)) (h.hf.C hg (Fi h.ds.2.2.2)) m
def L8(F:Nd)(n0 b:Nat)(fv:Aj)(ms mg mn mf m2:Nat)(pv:Nat→Aj)(TB:List Nat)(i:Nat)(w:Ae):Prop :=
 F6 F n0 b fv ms mg mn mf m2 pv TB (DR 2 (fun _ _=>.bool true) (F.j.take i) 0) (DR 6 (fun _ d=>D7 (Bx (Aa d 0)).1) (F.j.take i) 0) (DR 6 (fun k _=>.int .i64 k) (F.j.take i) 0) (DR 4 (fun k d=>Il k (pv k) (GV d)) (F.j.take i) 0) (KI (F.j.take i)) i w
theorem F6.next(h:F6 F n0 b fv ms mg mn mf m2 pv TB es eg en ef eq i w)(hi:i<F.j.length)(hk:(Aa F i).k≠4):F6 F n0 b fv ms mg mn mf m2 pv TB es eg en ef eq (i+1) w :=
 ⟨h.B,h.hs,h.hg,h.hn,h.hf,h.hq,fun j hj aa=>h.hp j (by
 have:j≠i:=fun e=>hk (by rw [← e];exact aa);omega) aa,h.tb,h.ds⟩
theorem mZ(hi:i<F.j.length)(hk:(Aa F i).k=2)(h:F6 F n0 b fv ms mg mn mf m2 pv TB (DR 2 (fun _ _=>.bool true) (F.j.take i) 0++[((Aa F i).o,.bool true)]) (DR 6 (fun _ d=>D7 (Bx (Aa d 0)).1) (F.j.take i) 0) (DR 6 (fun k _=>.int .i64 k) (F.j.take i) 0) (DR 4 (fun k d=>Il k (pv k) (GV d)) (F.j.take i) 0) (KI (F.j.take i)++[((Aa F i).o,.bool true)]) i w):L8 F n0 b fv ms mg mn mf m2 pv TB (i+1) w:=by
 unfold L8;rw [TW _ hi hk,Oo _ _ hi (by rw [hk];decide),Oo _ _ hi (by rw [hk];decide),Oo _ _ hi (by rw [hk];decide),Uk hi];exact h.next hi (by rw [hk];decide)
theorem Acv(hi:i<F.j.length)(hk:(Aa F i).k=6)(h:F6 F n0 b fv ms mg mn mf m2 pv TB (DR 2 (fun _ _=>.bool true) (F.j.take i) 0) (DR 6 (fun _ d=>D7 (Bx (Aa d 0)).1) (F.j.take i) 0++[((Aa F i).o,D7 (Bx (Aa (Aa F i) 0)).1)]) (DR 6 (fun k _=>.int .i64 k) (F.j.take i) 0++[((Aa F i).o,.int .i64 (Gy 6 (F.j.take i)))]) (DR 4 (fun k d=>Il k (pv k) (GV d)) (F.j.take i) 0) (KI (F.j.take i)++[((Aa F i).o,.bool true)]) i w):L8 F n0 b fv ms mg mn mf m2 pv TB (i+1) w:=by
 unfold L8;rw [Oo _ _ hi (by rw [hk];decide),TW _ hi hk,TW _ hi hk,Oo _ _ hi (by rw [hk];decide),Uk hi];exact h.next hi (by rw [hk];decide)
theorem YD(hi:i<F.j.length)(hk:(Aa F i).k=4){v:Aj}(h:F6 F n0 b fv ms mg mn mf m2 pv TB (DR 2 (fun _ _=>.bool true) (F.j.take i) 0) (DR 6 (fun _ d=>D7 (Bx (Aa d 0)).1) (F.j.take i) 0) (DR 6 (fun k _=>.int .i64 k) (F.j.take i) 0) (DR 4 (fun k d=>Il k (pv k) (GV d)) (F.j.take i) 0++[((Aa F i).o,Il (Gy 4 (F.j.take i)) v (GV (Aa F i)))]) (KI (F.j.take i)++[((Aa F i).o,.bool true)]) i w)
 {lo:Nat} (ho:w.ownsRow lo 24 2 v (Jq (Aa F i)).length ((Jq (Aa F i)).flatMap Ek)) (ae:n0≤lo):∃ pv TB,L8 F n0 b fv ms mg mn mf m2 pv TB (i+1) w:=by
 obtain ⟨qv,ab⟩:∃ qv,qv=fun k=>if k=Gy 4 (F.j.take i) then v else pv k:=⟨_,rfl⟩;have ad:∀ k,k<Gy 4 (F.j.take i)→qv k=pv k:=fun k hk=>by rw [ab];exact CN O
 have ac:qv (Gy 4 (F.j.take i))=v:=by rw [ab];exact CO rfl
 have e4:DR 4 (fun k d=>Il k (qv k) (GV d)) (F.j.take (i+1)) 0=DR 4 (fun k d=>Il k (pv k) (GV d)) (F.j.take i) 0++[((Aa F i).o,Il (Gy 4 (F.j.take i)) v (GV (Aa F i)))]:=by
  rw [TW _ hi hk,XY (f:=fun k d=>Il k (qv k) (GV d)) (g:=fun k d=>Il k (pv k) (GV d)) _ 0 fun j d hj=>by show Il j (qv j) _=Il j (pv j) _;rw [ad j O],ac]
 refine ⟨qv,TB++v.ownBlock.toList,?_⟩;unfold L8;rw [Oo _ _ hi (by rw [hk];decide),Oo _ _ hi (by rw [hk];decide),Oo _ _ hi (by rw [hk];decide),e4,Uk hi];refine ⟨h.B,h.hs,h.hg,h.hn,h.hf,h.hq,fun j hj aa=>?_,fun j hj=>?_,h.ds⟩;by_cases hji:j=i;subst hji;rw [ac];exact (Abl ho).mono fun k hk=>List.mem_append_right _ hk;rw [ad _ (nI O O aa)];exact (h.hp j O aa).mono fun k hk=>List.mem_append_left _ hk;rcases List.mem_append.1 hj with q|q;exact h.tb j q;have:=ho.lt j (Option.mem_toList.1 q);exact ⟨O,this.2⟩
theorem L8.b7(h:L8 F n0 b fv ms mg mn mf m2 pv TB F.j.length w):QP F TB ms mg mn mf pv w:=by
 unfold L8 at h;rw [List.take_length] at h;refine ⟨h.hs,h.hg,h.hn,h.hf,fun s hs=>?_⟩;obtain ⟨j,hj,h1,h2,h3⟩:=UJ 4 s F.j 0 hs;unfold A9;rw [h2,h3,Cq,← Em hj];exact h.hp j hj (by rw [Em hj];exact h1)
end
def EJ(V:Nat→Prop)(w w':Ae):Prop:=Km V w w'
section
variable {V:Nat→Prop} {w w' w0:Ae}
theorem EJ.refl(V:Nat→Prop)(w:Ae):EJ V w w:=Km.refl V w
theorem EJ.trans(h:EJ V w0 w)(k:EJ V w w'):EJ V w0 w':=Km.trans h k
theorem EJ.size(h:EJ V w w'):w.heap.size≤w'.heap.size:=Km.size h
theorem EJ.Y(h:G w w'):EJ V w w':=Km.Y h
theorem OI{b:Nat}(h:EJ V w0 w)(hg:w.grownBy w' (some b))(hb:w0.heap.size≤b):EJ V w0 w':=aL h hg (.inr hb)
theorem SO{b:Nat}(h:EJ V w0 w)(hg:w.grownBy w' (some b))(hb:V b):EJ V w0 w':=aL h hg (.inl hb)
end
def Hb(ms mg mn mf k:Nat):Prop:=k=ms∨k=mg∨k=mn∨k=mf
theorem CP.aj{w w':Ae}{L:List (Nat×AD×List Aj)}{m:Nat}{es:List (List UInt8×Aj)}(E:CP w L)(hM:Do w m es)(hg:w.grownBy w' (some m)):CP w' L:=⟨E.1,ON E.2 fun b e l _ h=>h.C hg (Fi (hM.ao h).symm)⟩
theorem Yz{B:Nat→Prop}{w0 w w':Ae}{row:Option Nat}(h:EJ B w0 w)(hg:w.grownBy w' row)(hr:∀ k,row=some k→B k∨w0.heap.size≤k):EJ B w0 w' :=
 ⟨hg.os.trans h.os,hg.tape.trans h.tape,hg.output.trans h.output,Nat.le_trans h.size hg.size,fun k hk hn=>(hg.block k (A2 hk h.size) (fun e=>(hr k e.symm).elim hn O)).trans (h.block k hk hn)⟩
theorem G7.ai{n0:Nat}{w w':Ae}{row:Option Nat}(h:G7 n0 w)(hg:w.grownBy w' row)(hr:∀ k,row=some k→n0≤k):G7 n0 w' :=
 h.below ⟨hg.os,hg.tape,hg.output,hg.size,fun k hk=>hg.block k (A2 hk h.hn) fun e=>by have:=hr k e.symm;omega⟩
theorem G7.A{n0:Nat}{w w':Ae}(h:G7 n0 w)(g:G w w'):G7 n0 w':=h.ai (row:=none) (g.O _) fun k e=>by cases e
theorem ZF{n:Nat}{σ:List Ce}{c:Prop}{wb:Ae}{ty m:Nat}{x y:Bl}{F:Nd}{i:Nat}(h:Do wb m (KI (F.j.take i)))(hx:BI n σ c x (.map (some m)))(hy:BI n σ c y (Cg (Aa F i).o)) :
 Db An n σ c wb (.lookup 51 x y false) ty (.bool (Ge F i)):=by
 have k:=XN (ty:=ty) Ma SQ Wc h hx hy;rw [pJ] at k;exact k
theorem T0{F:Nd}{i:Nat}(h:∀ j,j<i→Ge F j=false)(k:Ge F i=false):∀ j,j<i+1→Ge F j=false:=fun j hj=>by
 by_cases e:j=i;rw [e];exact k;exact h j O
theorem P8(d:Nd):(Jq d).length=(Aa d 0).j.length:=EY ..
theorem YU{d:Nd}{j:Nat}(h:j<(Aa d 0).j.length):((Jq d).take (j+1)).flatMap Ek=((Jq d).take j).flatMap Ek++Ek (Bx (Aa (Aa (Aa d 0) j) 0)).1:=by
 have hl:j<(Jq d).length:=by rw [P8];exact h
 have e:(Jq d)[j]=(Bx (Aa (Aa (Aa d 0) j) 0)).1:=by
  rw [Em (t:=Aa d 0) h];exact List.getElem_map ..
 rw [E8 hl,List.flatMap_append,e];simp
def Z6(V:Nat→Prop)(F:Nd)(w:Ae)(ch:List Bf)(w':Ae):Prop:=ch=[JZ (FV F Ee F.j.length).ea (FV F Ee F.j.length).ee]∧(FV F Ee F.j.length).ee≠0∧EJ V w w'
theorem Acj{V:Nat→Prop}{F:Nd}{w w1 w':Ae}{i:Nat}{ch:List Bf}(hi:i<F.j.length)(h0:∀ j,j<i→Ge F j=false)(g:EJ V w w1)(hz:(!Ge F i)=false∧ch=[JZ (Aa F i).z 6]∧G w1 w'):Z6 V F w ch w':=by
 obtain ⟨h1,h2,h3⟩:=hz;obtain ⟨AU,e2⟩:=pL (S:=Ee) rfl hi h0 (by simpa using h1);exact ⟨by rw [AU,e2];exact h2,by rw [AU];decide,g.trans (EJ.Y h3)⟩
theorem pR{F:Nd}{n0 b:Nat}{fv:Aj}{ms mg mn mf:Nat}{w:Ae}(hv:Hf F=true)(hF:count F≤1000000)(hb:n0≤b)(ce:Ax w b 59 (LS F fv ms mg mn mf (.slice none 0 0) (.slice none 0 0) (.slice none 0 0)))
 (bb:Bv w (fun k=>k<n0) F.j fv) (hL:G7 n0 w) (s0:Do w ms []) (g0:Do w mg []) (m0:Do w mn []) (f0:Do w mf []) (ds:(ms≠mg∧ms≠mn∧ms≠mf)∧(mg≠mn∧mg≠mf)∧mn≠mf) (hm:n0≤ms∧n0≤mg∧n0≤mn∧n0≤mf) :
 Gg An 29 #[.pointer (some ⟨b,0,none⟩)] w (fun r w'=>r = .tuple #[]∧(∀ j,j<F.j.length→Ge F j=false)∧(∃ m2 pv TB,L8 F w.heap.size b fv ms mg mn mf m2 pv TB F.j.length w')∧EJ (Hb ms mg mn mf) w w') (Z6 (Hb ms mg mn mf) F w):=by
 obtain ⟨p,c,rfl,_⟩:=id bb;obtain ⟨cz,c8⟩:=WS hv;have hd:=WE cz c8;have dw:=ED F;have ar:=bb;have a9:=hL;have dq:=s0.lt;have de:=g0.lt;have dp:=m0.lt;have a3:=f0.lt;have dm:=hL.hn;have g:=EJ.refl (Hb ms mg mn mf) w;refine JM (m:=106) Tryz.func29 J J [(0,True,_)] Bp ?_;refine Ad ?_;refine QI J ?_;intro m2 w8 bw g8 z8 b2;have g:=g.trans (EJ.Y g8);replace E:=IQ w8;have dy:w.heap.size≤m2:=by rw [bw];exact Ao _
 obtain ⟨pv,TB,h⟩:∃ pv TB,L8 F w.heap.size b (.slice p F.j.length c) ms mg mn mf m2 pv TB 0 w8:=⟨fun _=>.slice none 0 0,[],ce.A g8,s0.A g8,g0.A g8,m0.A g8,f0.A g8,b2,fun j hj=>absurd hj O,fun j hj=>(by cases hj),⟨⟨ds.1.1,ds.1.2.1,ds.1.2.2,O⟩,⟨ds.2.1.1,ds.2.1.2,O⟩,⟨ds.2.2,O⟩,O⟩⟩;have hL:=hL.A g8;have ab:=bb.A g8;refine Ad ?_;refine GR (fun (i:Nat) u1=>(i≤F.j.length∧(∀ j,j<i→Ge F j=false)∧∃ pv TB,L8 F w.heap.size b (.slice p F.j.length c) ms mg mn mf m2 pv TB i u1)∧EJ (Hb ms mg mn mf) w u1) _ [(0,True,_),(2,True,_),(13,True,_),(14,True,_)] (fun (i:Nat)=>[(15,True,.int .i64 i)]) (fun (i:Nat)=>F.j.length-i) (0) ⟨⟨CW _,fun j hj=>absurd hj O,pv,TB,h⟩,g⟩ (Di _) Bp ?_;rintro i u1 ⟨cb,ao⟩ _;have g:=ao;obtain ⟨hi,av,pv,TB,h⟩:=cb;have hL:=a9.below ⟨ao.os,ao.tape,ao.output,ao.size,fun k hk=>ao.block k O (by unfold Hb;omega)⟩;have ab:=HQ ar (fun _ h _=>h) fun k hk ag=>ao.block k ag (by unfold Hb;omega);refine Aw (fun h1=>?_) fun h1=>?_;have h1:i<F.j.length:=by simp only [BM] at h1;omega
 obtain ⟨e0,pd,cd,a2,al⟩:=Ba ar (i:=i) h1;have dz:=Gi ar (show 0<F.j.length by omega);have hcell:=MJ a2 (ao.block (E5 p) O (by unfold Hb;omega));have aa:=HQ al (fun _ h _=>h) fun k hk ag=>ao.block k ag (by unfold Hb;omega);have bs:=NY h1;have db:=HH h1;have c9:=ED (Aa F i);have bp:=(hd _ bs).2;refine Ad ?_;refine En J Cp J ?_;intro b4 w4 N4;have l4:=Dw N4 g.size;have d0:=h;have g:=g.trans (EJ.Y (N4.g));have h:=h.A (N4.g);have hL:=hL.A (N4.g);have ab:=ab.A (N4.g);have aa:=aa.A (N4.g);have E:=(IQ _).new N4;refine FH Fm J J J E.J ?_;intro dx an _ BS;have C4:=E.J;replace E:=E.s0 an BS;have g:=OI g an O;have h:=h.C an C4 rfl;have hL:=hL.ai an (fun k e=>by injection e with e;omega);have ab:=ab.C an Fv;have aa:=aa.C an Fv;refine Ai (Al (Am ?_));refine Kb [3,3,0,0,3,3,0,1] ?_;refine Ad ?_;refine FG J (ZF h.hq (Ab J) (Ab J)) ?_;refine Ad ?_;refine EL J G1 J J J (GS _ _ _ _) ((fun ch w' hz=>Acj h1 av g hz)) ?_;rintro dv dl ⟨rfl,bn,au⟩;refine ⟨fun _=>au,?_⟩;have g:=g.trans (EJ.Y (au));replace E:=E.A au;have h:=h.A (au);have hL:=hL.A (au);have ab:=ab.A (au);have aa:=aa.A (au);have am:Ge F i=false:=by simpa using bn
 refine Ad ?_;refine Ph J Ma SQ h.hq (dE am) (Ab J) (Ab J) Bd ?_;intro wq cj aw dt;replace E:=E.aj h.hq aw;have g:=OI g aw O;have ab:=ab.C aw Fv;have aa:=aa.C aw Fv;have hL:=hL.ai aw (fun k e=>by injection e with e;omega);have h:=h.uq aw cj;refine Aw (fun h2=>?_) fun h2=>?_;have h2:(Aa F i).k=2:=AH h2;refine Dj [3,3,3,0,3,0,2] ?_;have g:=g.trans (EJ.Y (G.drew _));replace E:=E.dr;have h:=h.A (G.drew _);refine Ad ?_;refine Ph J Ma SQ h.hs (Sl am 2 _) (Ab J) (Ab J) Bd ?_;intro ws c6 bf dc;replace E:=E.aj h.hs bf;have g:=SO g bf (by unfold Hb;omega);have h:=h.us bf c6;refine Ad ?_;refine Ci [15,0,2,13,14] ?_;refine Ai (fun a ha=>?_);exact ⟨i+1,ha,⟨⟨O,T0 av am,pv,TB,mZ h1 h2 h⟩,g⟩,Cc,O⟩;have h2:(Aa F i).k≠2:=CF h2;refine Aw (fun h3=>?_) fun h3=>?_;have h3:(Aa F i).k=6:=AH h3;obtain ⟨df,dn,_⟩:=SK h3 bp;have cy:=ED (Aa (Aa F i) 0);have cw:=HH (t:=Aa F i) (i:=0) O;refine Ad ?_;refine Dj [3,3,3,0,3,0,3,3,3,0,0,2] ?_;have g:=g.trans (EJ.Y (G.drew _));replace E:=E.dr;have h:=h.A (G.drew _);have hL:=hL.A (G.drew _);have aa:=aa.A (G.drew _);refine Ad ?_;refine FG J (dJ V2 h.hg (Ab J)) (Ph J Ma Z5 h.hn (Sl am 6 _) (Ab J) (Ab J) (Ab J) ?_);intro wn bo a1 dh;rw [Sp] at bo;replace E:=E.aj h.hn a1
 have g:=SO g a1 (by unfold Hb;omega);have aa:=aa.C a1 Fv;have hL:=hL.ai a1 (fun k e=>by injection e with e;omega);have h:=h.un a1 bo;refine Ad ?_;refine Dj [3,3,3,0,3,0,3,0,3,0,1,2] ?_;have g:=g.trans (EJ.Y (G.drew _));replace E:=E.dr;have h:=h.A (G.drew _);have hL:=hL.A (G.drew _);have aa:=aa.A (G.drew _);obtain ⟨AU,p1,c1,a4,ct⟩:=Ba aa (i:=0) O;refine Ad ?_;refine DI (Qr (Aa (Aa F i) 0) _ _ _ hL.hL hL.hb hL.hT O) (fun dd bg=>?_);have g:=g.trans (EJ.Y (bg));replace E:=E.A bg;have h:=h.A (bg);refine Ph J Ma V2 h.hg (Sl am 6 _) (Ab J) (Ab J) (Ab J) ?_;intro wt b1 ba dj;replace E:=E.aj h.hg ba;have g:=SO g ba (by unfold Hb;omega);have h:=h.ug ba b1;refine Ad ?_;refine Ci [15,0,2,13,14] ?_;refine Ai (fun a ha=>?_);exact ⟨i+1,ha,⟨⟨O,T0 av am,pv,TB,Acv h1 h3 h⟩,g⟩,Cc,O⟩;have h3:(Aa F i).k≠6:=CF h3;refine Aw (fun h4=>?_) fun h4=>?_;have h4:(Aa F i).k=4:=AH h4;obtain ⟨dk,⟨bk,br⟩,da,_⟩:=OV h4 bp;have cy:=ED (Aa (Aa F i) 1);have cw:=HH (t:=Aa F i) (i:=1) O;have du:=ED (Aa (Aa F i) 0);have dg:=HH (t:=Aa F i) (i:=0) O;obtain ⟨AU,p1,c1,a4,ct⟩:=Ba aa (i:=1) O;obtain ⟨e2,p2,c2,a6,a5⟩:=Ba al (i:=0) O;have di:=Gi al (show 0<(Aa F i).j.length by omega);refine Ad ?_
 refine Dx (Ej none) [3,3,3,0,0,3,0,3,0,1,3,1,2] [0,1,3,7,15,0,32,96,224,511,1023,0,4095] CG Ag [0,1,2,3,4,5,6,7,8,9,10,11,12] J ?_;have g:=g.trans (EJ.Y (G.drew _));replace E:=E.dr;have h:=h.A (G.drew _);have hL:=hL.A (G.drew _);have ab:=ab.A (G.drew _);have aa:=aa.A (G.drew _);have a4:=a4.A (G.drew _);refine As 0 J J (Bm J) (As 1 J J (fun _=>FZ (Ab J)) (As 2 J J (fun _=>AB Rb (Ab J)) (Bb 3 J J (fun w1 hx=>AZ Sj (Ab J) (fun _=>(h.B.C hx DD).y J)) (Bb 4 J J (fun w1 hx=>dJ SZ (h.hf.C hx DD) (Ab J)) (As 5 J J (fun _=>AB AY (Ab J)) (Bb 6 J J (fun w1 hx=>AZ Bh (Ab J) (fun _=>(E.J.C hx DD).y J)) (As 7 J J (fun _=>CS AC (Ab J) Bd (fun _=>O) (fun _=>AU)) (Bb 8 J J (fun w1 hx=>A8 A3 (Ab J) J (fun _=>a4.kn hx)) (Lx 9 11 J J ?_ ?_)))))))));refine Bt (L':=[10,11,12]) [3,3,3,0,0,3,0,3,0,1,3,1,2] rfl rfl rfl ?_;refine DI (Qr (Aa (Aa F i) 1) _ _ _ hL.hL hL.hb hL.hT O) (fun cu ah=>?_);have g:=g.trans (EJ.Y (ah));replace E:=E.A ah;have h:=h.A (ah);have hL:=hL.A (ah);have ab:=ab.A (ah);have aa:=aa.A (ah);refine Bs ((ah).O _) ?_;refine As 10 J J (fun _=>Jj [_,_,_,_] Pg J Xg (J6 (Ab J) (J6 (Ab J) (IR))) J) (AW 11 J J ?_);refine Bt (L':=[12]) [3,3,3,0,0,3,0,3,0,1,3,1,2] J J J ?_;refine En J Pg J ?_;intro b5 w5 N5;have l5:=Dw N5 g.size;have bj:=h;have g:=g.trans (EJ.Y (N5.g));have h:=h.A (N5.g);have hL:=hL.A (N5.g);have ab:=ab.A (N5.g);have aa:=aa.A (N5.g);replace E:=E.new N5;refine Bs ((N5.g).O _) ?_;refine AW 12 J J ?_
 refine DN (L':=[]) [3,3,3,0,0,3,0,3,0,1,3,1,2] J J J J ?_;refine FH Tt J J J E.J ?_;intro c7 ac _ BS;have C5:=E.J;replace E:=E.s0 ac BS;have g:=OI g ac O;have h:=h.C ac C5 rfl;have hL:=hL.ai ac (fun k e=>by injection e with e;omega);have ab:=ab.C ac Fv;have aa:=aa.C ac Fv;refine DL ?_;refine Ke [(0,_,_),(2,_,_),(4,_,_),(5,_,_),(13,_,_),(14,_,_),(15,_,_)] Bp (FW (Al (Am (Am (Au (?_))))));have bi:=MJ a6 (g.block (E5 pd) O (by unfold Hb;omega));have bc:∀ j∈TB,j<b5:=fun j hj=>by have:=(bj.tb j hj).2;have:=N5.y;omega
 refine AE AY J (AM Bh J (E.U.y J) (Dk AC J J O e2 (AE AY J (AM Bh J (bi.one (i:=4) J) (EI AC J (Ap J (Ai (Al (DF (?_))))))))));have az:=E.1;refine GR (fun (j:Nat) u2=>(j≤(Aa (Aa F i) 0).j.length∧F6 F w.heap.size b (.slice p F.j.length c) ms mg mn mf m2 pv TB (DR 2 (fun _ _=>.bool true) (F.j.take i) 0) (DR 6 (fun _ d=>D7 (Bx (Aa d 0)).1) (F.j.take i) 0) (DR 6 (fun k _=>.int .i64 k) (F.j.take i) 0) (DR 4 (fun k d=>Il k (pv k) (GV d)) (F.j.take i) 0) (KI (F.j.take i)++[((Aa F i).o,.bool true)]) i u2∧∃ v,Ax u2 b5 61 [.int .i64 (Gy 4 (F.j.take i)),v,.int .i64 (GV (Aa F i)).k,Cg (GV (Aa F i)).name]∧u2.ownsRow b5 24 2 v j (((Jq (Aa F i)).take j).flatMap Ek))∧EJ (Hb ms mg mn mf) w u2) _ [(0,True,_),(2,True,_),(4,True,_),(5,True,_),(13,True,_),(14,True,_),(15,True,_),(81,True,_),(82,True,_)] (fun (j:Nat)=>[(83,True,.int .i64 j)]) (fun (j:Nat)=>(Aa (Aa F i) 0).j.length-j) (0) ⟨⟨CW _,h,_,(by have q:=E.J;rw [Sp] at q;exact q),J5 _ _ _ _⟩,g⟩ (A6 (A7 E.U) (Di _)) Bp ?_;clear E;rintro j u2 ⟨a7,ae⟩ ⟨B4,_⟩;replace B4:Ax _ _ _ _:=B4;have g:=ae;obtain ⟨hj,h,v,B5,ho⟩:=a7;obtain ⟨va,vc,rfl,_⟩:=IJ ho;have hL:=a9.below ⟨ae.os,ae.tape,ae.output,ae.size,fun k hk=>ae.block k O (by unfold Hb;omega)⟩;have ab:=HQ ar (fun _ h _=>h) fun k hk ag=>ae.block k ag (by unfold Hb;omega);have aa:=HQ al (fun _ h _=>h) fun k hk ag=>ae.block k ag (by unfold Hb;omega);have bh:=HQ a5 (fun _ h _=>h) fun k hk ag=>ae.block k ag (by unfold Hb;omega);have bq:=B5.lt
 have E:=GX (L:=[(b5,_,_),(b4,_,_)]) az ⟨B5,B4,Cc⟩ rfl;refine Aw (fun h5=>?_) fun h5=>?_;have h5:j<(Aa (Aa F i) 0).j.length:=by simp only [BM] at h5;omega
 obtain ⟨ef,pf,cf,cr,ai⟩:=Ba bh (i:=j) h5;have a3:=NY h5;have ax:=Ns (.inr bk) br _ a3;have c5:=(OD ax.1 ax.2).1;have ck:=HH h5;have bv:=HH (t:=Aa (Aa (Aa F i) 0) j) (i:=0) O;have bt:=ED (Aa (Aa (Aa (Aa F i) 0) j) 0);refine Ad ?_;refine En J Cp J ?_;intro b7 w7 N7;have l7:=Dw N7 g.size;have c4:=h;have g:=g.trans (EJ.Y (N7.g));have h:=h.A (N7.g);have hL:=hL.A (N7.g);have ai:=ai.A (N7.g);have ho:=Ef ho (N7.g);replace E:=E.new N7;refine FH Fm J J J E.J ?_;intro cp ad _ BS;have C7:=E.J;replace E:=E.s0 ad BS;have g:=OI g ad O;have h:=h.C ad C7 rfl;have hL:=hL.ai ad (fun k e=>by injection e with e;omega);have ai:=ai.C ad Fv;have ho:=Dg ho ad (.inr (DY ho C7 rfl));refine Ad ?_;refine Dj [3,0,3,0,3,0,1,1,2,3,2] ?_;have g:=g.trans (EJ.Y (G.drew _));replace E:=E.dr;have h:=h.A (G.drew _);have hL:=hL.A (G.drew _);have ai:=ai.A (G.drew _);have ho:=Ef ho (G.drew _);obtain ⟨eg,pg,cg,b0,b3⟩:=Ba ai (i:=0) O;refine Ad ?_;refine DI (Qr (Aa (Aa (Aa (Aa F i) 0) j) 0) _ _ _ hL.hL hL.hb hL.hT O) (fun b6 aq=>?_);have g:=g.trans (EJ.Y (aq));replace E:=E.A aq;have h:=h.A (aq);have ho:=Ef ho (aq);refine Fe _ J Jb FF (Bk J CH) J J ?_;intro cq c3 af;have bu:=Dw af g.size;have bm:=h;have cn:=af.H;have g:=g.trans (EJ.Y (af.g));replace E:=E.A af.g;have h:=h.A (af.g);have ho:=Ef ho (af.g)
 refine Ja J Jb FF J BT (Ab J) ho (Ab J) J af.H.row J (by simp only [maxLen];omega) O (by have:=E.U.lt;omega) ?_;intro b9 bz c0 ay ak a8;replace E:=E.ay ho ak rfl;have g:=Yz g ak (fun k e=>.inr (by have:=(ho.lt k e).1;omega));have h:=h.aa ho ak bc;replace ho:=ay;refine Ad ?_;refine Jl Oy J J J E.U ?_;intro ci aj _ BS;have C5:=E.U;replace E:=E.s1 aj BS;have g:=OI g aj O;have h:=h.C aj C5 rfl;have ho:=Dg ho aj (.inr (DY ho C5 rfl));refine Ad ?_;refine Ci [83,0,2,4,5,13,14,15,81,82] ?_;refine Ai (fun a ha=>?_);exact ⟨j+1,ha,⟨⟨O,h,_,E.U,by rw [YU h5];exact ho⟩,g⟩,⟨E.g2,Cc⟩,O⟩;have h5:j=(Aa (Aa F i) 0).j.length:=by simp only [CB] at h5;omega
 subst h5;refine Ad ?_;refine Dj [3,3,3,0,3,0,0,2] ?_;have g:=g.trans (EJ.Y (G.drew _));replace E:=E.dr;have h:=h.A (G.drew _);have ho:=Ef ho (G.drew _);refine Ad ?_;refine Ph J Ma SZ h.hf (Sl am 4 _) (Ab J) (Ab J) (Ab J) ?_;intro wf be ap b8;have ho:=Dg ho ap (.inr (fun e=>by have:=(ho.lt _ e).1;omega));replace E:=E.aj h.hf ap;have g:=SO g ap (by unfold Hb;omega);have h:=h.uf ap be;refine Ad ?_;refine Ci [15,0,2,13,14] ?_;refine Ai (fun a ha=>?_);exact ⟨i+1,ha,⟨⟨O,T0 av am,YD h1 h4 h (lo:=b5) (by have q:=ho;rw [Eo (by rw [P8];exact Ao _)] at q;rw [P8];exact q) O⟩,g⟩,Cc,O⟩;refine Bt (L':=[9,10,12]) [3,3,3,0,0,3,0,3,0,1,3,1,2] rfl rfl rfl ?_;refine En J Pg J ?_;intro b5 w5 N5;have l5:=Dw N5 g.size;have bj:=h;have g:=g.trans (EJ.Y (N5.g));have h:=h.A (N5.g);have hL:=hL.A (N5.g);have ab:=ab.A (N5.g);have aa:=aa.A (N5.g);replace E:=E.new N5;refine Bs ((N5.g).O _) ?_;refine AW 9 J J ?_;refine Bt (L':=[10,12]) [3,3,3,0,0,3,0,3,0,1,3,1,2] J J J ?_;refine DI (Qr (Aa (Aa F i) 1) _ _ _ hL.hL hL.hb hL.hT O) (fun cu ah=>?_);have g:=g.trans (EJ.Y (ah));replace E:=E.A ah;have h:=h.A (ah);have hL:=hL.A (ah);have ab:=ab.A (ah);have aa:=aa.A (ah);refine Bs ((ah).O _) ?_;refine As 10 J J (fun _=>Jj [_,_,_,_] Pg J Xg (J6 (Ab J) (J6 (Ab J) (IR))) J) (AW 12 J J ?_);refine DN (L':=[]) [3,3,3,0,0,3,0,3,0,1,3,1,2] J J J J ?_;refine FH Tt J J J E.J ?_;intro c7 ac _ BS;have C5:=E.J;replace E:=E.s0 ac BS
 have g:=OI g ac O;have h:=h.C ac C5 rfl;have hL:=hL.ai ac (fun k e=>by injection e with e;omega);have ab:=ab.C ac Fv;have aa:=aa.C ac Fv;refine DL ?_;refine Ke [(0,_,_),(2,_,_),(4,_,_),(5,_,_),(13,_,_),(14,_,_),(15,_,_)] Bp (FW (Al (Am (Am (Au (?_))))));have bi:=MJ a6 (g.block (E5 pd) O (by unfold Hb;omega));have bc:∀ j∈TB,j<b5:=fun j hj=>by have:=(bj.tb j hj).2;have:=N5.y;omega
 refine AE AY J (AM Bh J (E.U.y J) (Dk AC J J O e2 (AE AY J (AM Bh J (bi.one (i:=4) J) (EI AC J (Ap J (Ai (Al (DF (?_))))))))));have az:=E.1;refine GR (fun (j:Nat) u2=>(j≤(Aa (Aa F i) 0).j.length∧F6 F w.heap.size b (.slice p F.j.length c) ms mg mn mf m2 pv TB (DR 2 (fun _ _=>.bool true) (F.j.take i) 0) (DR 6 (fun _ d=>D7 (Bx (Aa d 0)).1) (F.j.take i) 0) (DR 6 (fun k _=>.int .i64 k) (F.j.take i) 0) (DR 4 (fun k d=>Il k (pv k) (GV d)) (F.j.take i) 0) (KI (F.j.take i)++[((Aa F i).o,.bool true)]) i u2∧∃ v,Ax u2 b5 61 [.int .i64 (Gy 4 (F.j.take i)),v,.int .i64 (GV (Aa F i)).k,Cg (GV (Aa F i)).name]∧u2.ownsRow b5 24 2 v j (((Jq (Aa F i)).take j).flatMap Ek))∧EJ (Hb ms mg mn mf) w u2) _ [(0,True,_),(2,True,_),(4,True,_),(5,True,_),(13,True,_),(14,True,_),(15,True,_),(81,True,_),(82,True,_)] (fun (j:Nat)=>[(83,True,.int .i64 j)]) (fun (j:Nat)=>(Aa (Aa F i) 0).j.length-j) (0) ⟨⟨CW _,h,_,(by have q:=E.J;rw [Sp] at q;exact q),J5 _ _ _ _⟩,g⟩ (A6 (A7 E.U) (Di _)) Bp ?_;clear E;rintro j u2 ⟨a7,ae⟩ ⟨B4,_⟩;replace B4:Ax _ _ _ _:=B4;have g:=ae;obtain ⟨hj,h,v,B5,ho⟩:=a7;obtain ⟨va,vc,rfl,_⟩:=IJ ho;have hL:=a9.below ⟨ae.os,ae.tape,ae.output,ae.size,fun k hk=>ae.block k O (by unfold Hb;omega)⟩;have ab:=HQ ar (fun _ h _=>h) fun k hk ag=>ae.block k ag (by unfold Hb;omega);have aa:=HQ al (fun _ h _=>h) fun k hk ag=>ae.block k ag (by unfold Hb;omega);have bh:=HQ a5 (fun _ h _=>h) fun k hk ag=>ae.block k ag (by unfold Hb;omega);have bq:=B5.lt
 have E:=GX (L:=[(b5,_,_),(b4,_,_)]) az ⟨B5,B4,Cc⟩ rfl;refine Aw (fun h5=>?_) fun h5=>?_;have h5:j<(Aa (Aa F i) 0).j.length:=by simp only [BM] at h5;omega
 obtain ⟨ef,pf,cf,cr,ai⟩:=Ba bh (i:=j) h5;have a3:=NY h5;have ax:=Ns (.inr bk) br _ a3;have c5:=(OD ax.1 ax.2).1;have ck:=HH h5;have bv:=HH (t:=Aa (Aa (Aa F i) 0) j) (i:=0) O;have bt:=ED (Aa (Aa (Aa (Aa F i) 0) j) 0);refine Ad ?_;refine En J Cp J ?_;intro b7 w7 N7;have l7:=Dw N7 g.size;have c4:=h;have g:=g.trans (EJ.Y (N7.g));have h:=h.A (N7.g);have hL:=hL.A (N7.g);have ai:=ai.A (N7.g);have ho:=Ef ho (N7.g);replace E:=E.new N7;refine FH Fm J J J E.J ?_;intro cp ad _ BS;have C7:=E.J;replace E:=E.s0 ad BS;have g:=OI g ad O;have h:=h.C ad C7 rfl;have hL:=hL.ai ad (fun k e=>by injection e with e;omega);have ai:=ai.C ad Fv;have ho:=Dg ho ad (.inr (DY ho C7 rfl));refine Ad ?_;refine Dj [3,0,3,0,3,0,1,1,2,3,2] ?_;have g:=g.trans (EJ.Y (G.drew _));replace E:=E.dr;have h:=h.A (G.drew _);have hL:=hL.A (G.drew _);have ai:=ai.A (G.drew _);have ho:=Ef ho (G.drew _);obtain ⟨eg,pg,cg,b0,b3⟩:=Ba ai (i:=0) O;refine Ad ?_;refine DI (Qr (Aa (Aa (Aa (Aa F i) 0) j) 0) _ _ _ hL.hL hL.hb hL.hT O) (fun b6 aq=>?_);have g:=g.trans (EJ.Y (aq));replace E:=E.A aq;have h:=h.A (aq);have ho:=Ef ho (aq);refine Fe _ J Jb FF (Bk J CH) J J ?_;intro cq c3 af;have bu:=Dw af g.size;have bm:=h;have cn:=af.H;have g:=g.trans (EJ.Y (af.g));replace E:=E.A af.g;have h:=h.A (af.g);have ho:=Ef ho (af.g)
 refine Ja J Jb FF J BT (Ab J) ho (Ab J) J af.H.row J (by simp only [maxLen];omega) O (by have:=E.U.lt;omega) ?_;intro b9 bz c0 ay ak a8;replace E:=E.ay ho ak rfl;have g:=Yz g ak (fun k e=>.inr (by have:=(ho.lt k e).1;omega));have h:=h.aa ho ak bc;replace ho:=ay;refine Ad ?_;refine Jl Oy J J J E.U ?_;intro ci aj _ BS;have C5:=E.U;replace E:=E.s1 aj BS;have g:=OI g aj O;have h:=h.C aj C5 rfl;have ho:=Dg ho aj (.inr (DY ho C5 rfl));refine Ad ?_;refine Ci [83,0,2,4,5,13,14,15,81,82] ?_;refine Ai (fun a ha=>?_);exact ⟨j+1,ha,⟨⟨O,h,_,E.U,by rw [YU h5];exact ho⟩,g⟩,⟨E.g2,Cc⟩,O⟩;have h5:j=(Aa (Aa F i) 0).j.length:=by simp only [CB] at h5;omega
 subst h5;refine Ad ?_;refine Dj [3,3,3,0,3,0,0,2] ?_;have g:=g.trans (EJ.Y (G.drew _));replace E:=E.dr;have h:=h.A (G.drew _);have ho:=Ef ho (G.drew _);refine Ad ?_;refine Ph J Ma SZ h.hf (Sl am 4 _) (Ab J) (Ab J) (Ab J) ?_;intro wf be ap b8;have ho:=Dg ho ap (.inr (fun e=>by have:=(ho.lt _ e).1;omega));replace E:=E.aj h.hf ap;have g:=SO g ap (by unfold Hb;omega);have h:=h.uf ap be;refine Ad ?_;refine Ci [15,0,2,13,14] ?_;refine Ai (fun a ha=>?_);exact ⟨i+1,ha,⟨⟨O,T0 av am,YD h1 h4 h (lo:=b5) (by have q:=ho;rw [Eo (by rw [P8];exact Ao _)] at q;rw [P8];exact q) O⟩,g⟩,Cc,O⟩;have h4:(Aa F i).k≠4:=CF h4;refine Ad ?_;refine Ci [15,0,2,13,14] ?_;refine Ai (fun a ha=>?_);exact absurd (hd _ bs).1 (by rintro (q|q|q) <;> contradiction)
 have h1:i=F.j.length:=by simp only [CB] at h1;omega
 subst h1;refine L7 J (Hh J ?_);exact ⟨rfl,av,⟨m2,pv,TB,h⟩,g⟩
structure I7 (F:Nd) (n0 b:Nat) (TB X:List Nat) (fv:Aj) (ms mg mn mf:Nat) (pv:Nat→Aj) (sv cv rv:Aj) (w:Ae):Prop where
  B:Ax w b 59 (LS F fv ms mg mn mf sv cv rv)
  hb:n0≤b
  kF:Bv w (fun k=>k<n0) F.j fv
  hF:count F≤1000000
  T:QP F TB ms mg mn mf pv w
  L:G7 n0 w
  tx:∀ j∈TB,j∈X
  xl:∀ j∈X,j<w.heap.size
  bx:b∉X
def Hq(F:Nd)(n0 b:Nat)(TB X:List Nat)(w:Ae):Prop:=∃ fv ms mg mn mf pv sv cv rv,I7 F n0 b TB X fv ms mg mn mf pv sv cv rv w
section
variable {F:Nd} {n0 b:Nat} {TB X:List Nat} {r0:Option (List Bo)} {S:Ak} {fv:Aj} {ms mg mn mf:Nat} {pv:Nat→Aj} {sv cv rv sv' cv' rv':Aj} {w w' w1 w2:Ae}
theorem I7.gt(h:I7 F n0 b TB X fv ms mg mn mf pv sv cv rv w)(g:AP (CE X) n0 w w')(aa:Ax w' b 59 (LS F fv ms mg mn mf sv' cv' rv')):I7 F n0 b TB X fv ms mg mn mf pv sv' cv' rv' w':=by
 have hB:Below n0 w w':=⟨g.os,g.tape,g.output,g.size,fun k hk=>g.block k (A2 hk h.L.hn) (.inl hk)⟩
 have m:∀ {k es},Do w k es→Do w' k es:=fun hm=>hm.ac (g.block _ hm.lt (.inr fun ⟨cs,e,fr,h1,_⟩=>by
  obtain ⟨ms,c,hb,_⟩:=hm;rw [hb] at h1;injection h1 with h1;cases h1))
 refine ⟨aa,h.hb,HQ h.kF (fun _ h _=>h) (fun k hk _=>hB.block k hk),h.hF,⟨m h.T.hs,m h.T.hg,m h.T.hn,m h.T.hf,fun s hs=>(h.T.hp s hs).ac fun k hk ab _=>g.block k ab (.inr fun ⟨cs,e,fr,h1,h2⟩=>?_)⟩,h.L.below hB,h.tx,fun j hj=>A2 (h.xl j hj) g.size,h.bx⟩;unfold CE at h2;rw [BU (h.tx k hk)] at h2;simp at h2
theorem I7.A(h:I7 F n0 b TB X fv ms mg mn mf pv sv cv rv w)(g:G w w'):I7 F n0 b TB X fv ms mg mn mf pv sv cv rv w':=h.gt (AP.Y g) (h.B.A g)
theorem I7.C(h:I7 F n0 b TB X fv ms mg mn mf pv sv cv rv w){j:Nat}{e:AD}{l:List Aj}(hg:w.grownBy w' (some j))(hB:Ax w j e l)(hj:n0≤j)(he:Ka e=false∨(j∈X∧j∉TB)):I7 F n0 b TB X fv ms mg mn mf pv sv cv rv w':=by
 have aa:j≠b:=fun q=>by
  subst q;rcases he with he|he;have:=h.B;unfold Ax at hB this;rw [this] at hB;injection hB with hB;injection hB with _ hB;subst hB;exact E6 (show true=false from he);exact h.bx he.1
 have hk:∀ k,k<w.heap.size→k≠j→w'.heap[k]? = w.heap[k]?:=fun k hk hn=>hg.block k hk fun e=>hn (by injection e);have m:∀ {k es},Do w k es→Do w' k es:=fun hm=>hm.C hg fun q=>hm.ao hB (by injection q);have hL:Below n0 w w':=⟨hg.os,hg.tape,hg.output,hg.size,fun k hk=>hg.block k (A2 hk h.L.hn) fun e=>by injection e with e;omega⟩;refine ⟨h.B.C hg fun e=>aa (by injection e with e;exact e.symm),h.hb,h.kF.C hg fun k hk _ e=>by injection e with e;omega,h.hF,⟨m h.T.hs,m h.T.hg,m h.T.hn,m h.T.hf,fun s hs=>(h.T.hp s hs).ac fun k ab ac ⟨cs,fr,hc⟩=>hg.block k ac fun e=>?_⟩,h.L.below hL,h.tx,fun i hi=>A2 (h.xl i hi) hg.size,h.bx⟩;injection e with e;subst e;rcases he with he|he;unfold Ax at hB;rw [hc] at hB;injection hB with hB;injection hB with _ hB;subst hB;exact E6 (show true=false from he);exact he.2 ab
theorem I7.px(h:I7 F n0 b TB X fv ms mg mn mf pv sv cv rv w):Hq F n0 b TB X w:=⟨_,_,_,_,_,_,_,_,_,h⟩
theorem Hq.A(h:Hq F n0 b TB X w)(g:G w w'):Hq F n0 b TB X w':=by obtain ⟨_,_,_,_,_,_,_,_,_,h⟩:=h;exact (h.A g).px
theorem Hq.C(h:Hq F n0 b TB X w){j:Nat}{e:AD}{l:List Aj}(hg:w.grownBy w' (some j))(hB:Ax w j e l)(hj:n0≤j)(he:Ka e=false∨(j∈X∧j∉TB)):Hq F n0 b TB X w':=by obtain ⟨_,_,_,_,_,_,_,_,_,h⟩:=h;exact (h.C hg hB hj he).px
theorem Hq.lt(h:Hq F n0 b TB X w):n0≤b∧b<w.heap.size:=by obtain ⟨_,_,_,_,_,_,_,_,_,h⟩:=h;exact ⟨h.hb,h.B.lt⟩
theorem Hq.tb(h:Hq F n0 b TB X w):(∀ j∈TB,j∈X)∧∀ j∈X,j<w.heap.size:=by obtain ⟨_,_,_,_,_,_,_,_,_,h⟩:=h;exact ⟨h.tx,h.xl⟩
theorem Hq.nx(h:Hq F n0 b TB X w):b∉X:=by obtain ⟨_,_,_,_,_,_,_,_,_,h⟩:=h;exact h.bx
theorem CA.px(h:CA F n0 b TB X r0 S w):Hq F n0 b TB X w:=by
 obtain ⟨fv,ms,mg,mn,mf,pv,sv,cv,rv,vs,sc,h⟩:=h;exact ⟨_,_,_,_,_,_,_,_,_,h.B,h.hb,h.kF,h.hF,h.T,h.L,h.tx,h.xl,h.bx⟩
end
def Ts(n0:Nat)(X:List Nat)(T:Ak)(w:Ae)(ch:List Bf)(w':Ae):Prop:=ch=[JZ T.ea T.ee]∧T.ee≠0∧AP (CE X) n0 w w'
theorem PT{n0:Nat}{X:List Nat}{S T:Ak}{q:Bool}{a e:Int}{ch:List Bf}{w0 w1 w:Ae}(he:S.ee=0)(hn:e≠0)(hE:Bg (AG q a e S) T)(hz:q=false∧ch=[JZ a e]∧G w w1)(g:AP (CE X) n0 w0 w):Ts n0 X T w0 ch w1:=by
 obtain ⟨rfl,rfl,g1⟩:=hz;rw [LB he] at hE;obtain ⟨h2,h1⟩:=hE hn;exact ⟨by rw [h1,h2],by rw [h2];exact hn,g.trans (AP.Y g1)⟩
theorem Dm.d{n0 b L:Nat}{X X':List Nat}{T U:Ak}{ch:List Bf}{w w0 w':Ae}(h:Dm n0 b X' L T w ch w')(hE:Bg T U)(g:AP (CE X) n0 w0 w)(hX:∀ j∈X,j∈X':=by intro j hj;simp [hj]):Ts n0 X U w0 ch w':=by
 obtain ⟨h1,h2,_,h5⟩:=h;obtain ⟨AU,e2⟩:=hE h2;exact ⟨by rw [h1,AU,e2],by rw [AU];exact h2,Hc g h5 hX⟩
theorem cM{F:Nd}{n0 b:Nat}{TB X:List Nat}{w:Ae}(t:Nd)(p:Option Addr)(c:Nat)(h:Hq F n0 b TB X w):Gg An 52 #[.pointer (some ⟨b,0,none⟩),Cd t (.slice p t.j.length c)] w (fun r w'=>r = .tuple #[]∧(!Ac (t.k=8) || !Ac ((A9 F 2 t.o).2<0))=true∧G w w') (fun ch w'=>(!Ac (t.k=8) || !Ac ((A9 F 2 t.o).2<0))=false∧ch=[JZ t.z 5]∧G w w'):=by
 obtain ⟨fv,ms,mg,mn,mf,pv,sv,cv,rv,h⟩:=h;have g:=G.refl w;refine JM (m:=19) Tryz.func52 J J [(0,True,_),(1,True,_)] Bp ?_;refine CT fun _ _ _ _ g E=>?_;refine Ad ?_;refine Dx (Ej none) [3,0,3,3,3,3,3,0,3,0,0,3,3,0,1] [0,1,3,7,15,31,63,127,15,271,1023,2047,0,4096,16383] CG Ag [0,1,2,3,4,5,6,7,8,9,10,11,12,13,14] J ?_;refine FY fun g E=>?_;refine As 0 J J (fun _=>AB FP (Ab J)) (Bb 1 J J (fun w1 hx=>AZ Cb (Ab J) (fun _=>(E.J.C hx DD).y J)) (As 2 J J (fun _=>IA (Ab J) Bd) (As 3 J J (Bm J) (GO (L':=[5,6,7,8,9,10,11,12,13,14]) 4 J J J J J (Bm J) (GO (L':=[6,7,8,9,10,11,12,13,14]) 5 J J J J J (fun _=>FZ (Ah J id)) (GO (L':=[7,8,9,10,11,12,13,14]) 6 J J J J J (fun _=>AB Uy (Ah J id)) (J2 (L':=[8,9,10,11,12,13,14]) 7 J J J J J (fun w1 hx=>AZ TU (Ah J id) (fun _=>((h.B.A g).C hx DD).y J)) (GO (L':=[9,10,11,12,13,14]) 8 J J J J J (fun _=>AB E2 (Ab J)) (J2 (L':=[10,11,12,13,14]) 9 J J J J J (fun w1 hx=>AZ DW (Ah J id) (fun _=>(E.J.C hx DD).y J)) (J2 (L':=[11,12,13,14]) 10 J J J J J (fun w1 hx=>Xc ((h.T.hs.A g).C hx DD) (Ah J id) (Ah J id)) (As 11 J J (fun _=>FR (Ab J) (Ah J id)) (As 12 J J (fun _=>AB H7 (Ab J)) (Bb 13 J J (fun w1 hx=>AZ Cb (Ab J) (fun _=>(E.J.C hx DD).y J)) (AW 14 J J ?_))))))))))))));refine Bt (L':=[]) [3,0,3,3,3,3,3,0,3,0,0,3,3,0,1] J J J ?_;refine EL J G1 J J J (GS _ _ _ _) ((fun ch w' hz=>⟨hz.1,hz.2.1,g.trans hz.2.2⟩)) ?_;rintro ac ab ⟨rfl,hq,aa⟩;refine Ev aa fun g=>?_;replace E:=E.A aa;refine Bs ((aa).O _) ?_;refine Dt [] ?_;refine FW (Hh J ?_);exact ⟨rfl,hq,g⟩
theorem Adc{F:Nd}{n0 b:Nat}{TB X:List Nat}{S:Ak}{fv:Aj}{ms mg mn mf:Nat}{pv:Nat→Aj}{cv:Aj}{w:Ae}(h:I7 F n0 b TB X fv ms mg mn mf pv (.slice none 0 0) cv (.slice none 0 0) w)(co:w.ownsRow n0 3 1 cv 1 [.int .i64 0])(cx:∀ k,cv.ownBlock=some k→k∉X) :
 Bz An 54 #[.pointer (some ⟨b,0,none⟩)] w fun r w'=>r = .tuple #[]∧CA F n0 b TB X none (C9 S) w'∧AP (CE X) n0 w w':=by
 have ao:=h.L.hn;have so:w.ownsRow n0 82 1 (.slice none 0 0) 0 []:=J5 _ _ _ _;have g:=AP.refl (CE X) n0 w;refine Cu 11 [0] Tryz.func54 ?_;refine Au (Ap J (Ap J (C1 J (AE JK J (AM Kg J (h.B.y J) (VN fun _ w7 N7 _ g E=>?_))))));have h:=h.A (N7.g);have so:=Ef so (N7.g);have co:=Ef co (N7.g);refine Ja J Kl WR J BT (Ab J) so (Ab J) J N7.H.row J BT BT Dn ?_;intro a8 c8 w8 ad ac ae;have B8:Ax w8 b 59 _:=h.B.C ac (fun e=>DY so h.B rfl e.symm);replace E:=IQ w8;refine Ad ?_;refine Ik J QA (Ab J) (Ab J) J B8 J J ?_;intro ab aa an al;have g8:AP (CE X) n0 w7 w8:=NE so rfl (fun k hk=>by cases hk) ac;have af:AP (CE X) n0 w8 ab:=J4 B8 rfl h.hb h.bx aa;have K:=h.gt (g8.trans af) al;have ai:=Dg ad aa (.inr (DY ad B8 rfl));have ah:=Dg co ac (Ji co so rfl);have ag:=Dg ah aa (.inr (DY ah B8 rfl));have ak:ab.ownsRow n0 24 2 (.slice none 0 0) 0 []:=J5 _ _ _ _;have aj:G2 84 n0 ab ([]++[.slice none 0 0]) ([]++[[]]):=G2.push ⟨rfl,fun i v l h=>(by cases h),fun i j v u h=>(by cases h)⟩
 have am:EX F n0 b TB X none (C9 S) fv ms mg mn mf pv (.slice a8 (0+1) c8) cv (.slice none 0 0) [.slice none 0 0] [[]] ab:=⟨al,K.hb,K.kF,K.hF,K.T,K.L,ai,aj,rfl,rfl,fun i l hi v hv=>(by
  rcases Gq i with z|z;subst z;injection hi with hi;subst hi;cases hv;rw [Gm (by show 1≤_;omega)] at hi;cases hi),ag,ak,fun l e=>(by cases e),K.tx,K.xl,K.bx,fun k hk hm=>(by
  rcases ae with q|q;rw [q] at hk;cases hk;rw [hk] at q;injection q with q;have:=h.xl k hm;omega),fun i v hv k hk=>(by
  rcases Gq i with z|z;subst z;injection hv with hv;subst hv;cases hk;rw [Gm (by show 1≤_;omega)] at hv;cases hv),cx,fun k hk=>(by cases hk),by show 1≤2000000;decide⟩
 have g:=g.trans (g8.trans af);refine Ai (Hh J ?_);exact ⟨rfl,am.pc,g⟩
section
variable {F n:Nd} {S S':Ak}
theorem vW(h:n.k=2):GB F n S=(BP n,H1 F n S n.j.length):=by unfold GB;rw [h];rfl
theorem Aez(h:n.k=6):GB F n S=(BP n,I5 F (Aa n 0) S):=by unfold GB;rw [h];rfl
theorem kL(h:n.k=4):GB F n S=HZ F n S:=by unfold GB;rw [h];rfl
theorem TZ(k:Nd){T:Ak}(h:Bg S T):Bg S (I5 F k T):=by rw [LK];exact h.I _ _ _
theorem VE(k:Nd){T:Ak}(h:Bg S T):Bg S (DS F k T):=(TZ k h).I _ _ _
theorem WA(F n:Nd)(S:Ak)(i:Nat):∀ k,Bg (H1 F n S i) (H1 F n S (i+k))
 | 0=>Bg.refl _
 | k+1=>TZ _ ((WA F n S i k).I _ _ _)
theorem fL{i:Nat}(hi:i<n.j.length):Bg (H1 F n S (i+1)) (H1 F n S n.j.length):=by
 have k:=WA F n S (i+1) (n.j.length-(i+1));rwa [show i+1+(n.j.length-(i+1))=n.j.length by omega] at k
theorem kO{i:Nat}(hi:i<n.j.length)(h:H1 F n S i=S):Bg (AG (!Ge n i) (Aa n i).z 6 S) (H1 F n S n.j.length):=by
 have k:=fL (F:=F) (S:=S) hi;have e:H1 F n S (i+1)=I5 F (Aa (Aa n i) 0) (AG (!Ge n i) (Aa n i).z 6 (H1 F n S i)):=rfl;rw [e,h] at k;exact (TZ _ (Bg.refl _)).trans k
theorem mG{i:Nat}(hi:i<n.j.length)(h:H1 F n S i=S)(hd:Ge n i=false):Bg (I5 F (Aa (Aa n i) 0) S) (H1 F n S n.j.length):=by
 have k:=fL (F:=F) (S:=S) hi;have e:H1 F n S (i+1)=I5 F (Aa (Aa n i) 0) (AG (!Ge n i) (Aa n i).z 6 (H1 F n S i)):=rfl;rw [e,h,hd] at k;exact k
theorem uI{i:Nat}(h:H1 F n S i=S)(hd:Ge n i=false)(hp:(!Ac ((Aa (Aa n i) 0).k=8) || !Ac ((A9 F 2 (Aa (Aa n i) 0).o).2<0))=true):H1 F n S (i+1)=S:=by
 show I5 F (Aa (Aa n i) 0) (AG (!Ge n i) (Aa n i).z 6 (H1 F n S i))=S;rw [h,hd,LK,hp];rfl
theorem RQ{k:Nd}(he:S.ee=0)(h:DS F k S=S):(!Ac (k.k=8) || !Ac ((A9 F 2 k.o).2<0))=true∧E4 (Bx k).1=true:=by
 unfold DS at h;rw [LK] at h;cases h1:(!Ac (k.k=8) || !Ac ((A9 F 2 k.o).2<0));rw [h1,LB he] at h;cases h2:E4 (Bx k).1;rw [h2] at h;have h:=congrArg Ak.ee h;rw [he] at h;unfold AG DV at h;exact absurd h BR;rw [h2] at h;have h:=congrArg Ak.ee h;rw [he] at h;exact absurd h (by show ¬ (5:Int)=0;decide);rw [h1] at h;cases h2:E4 (Bx k).1;rw [h2] at h;have h:AG false k.z 7 S=S:=h;rw [LB he] at h;have h:=congrArg Ak.ee h;rw [he] at h;exact absurd h (by show ¬ (7:Int)=0;decide);exact ⟨rfl,rfl⟩
theorem Yi{k:Nd}(he:S.ee=0)(h:DS F k S=S)(T:Ak):DS F k T=T:=by
 obtain ⟨h1,h2⟩:=RQ he h;unfold DS;rw [LK,h1,h2];rfl
theorem bX{k:Nd}(he:S.ee=0)(aa:S'.ee=0):Bg (DS F k S) (DS F k S'):=by
 unfold DS;rw [LK,LK];intro hn;cases h1:(!Ac (k.k=8) || !Ac ((A9 F 2 k.o).2<0)) <;> cases h2:E4 (Bx k).1 <;> rw [h1,h2] at hn
 rw [LB he,LB aa];exact ⟨rfl,rfl⟩;rw [LB he,LB aa];exact ⟨rfl,rfl⟩;have e:∀ T:Ak,AG true k.z 5 T=T:=fun _=>rfl;rw [e,e,LB he,LB aa];exact ⟨rfl,rfl⟩;exact absurd he hn
theorem Xw(p:Nd)(i:Nat):∀ k,Bg (Dc F p S i).2 (Dc F p S (i+k)).2
 | 0=>Bg.refl _
 | k+1=>VE _ ((Xw p i k).a0 _ _ _)
theorem iR:Bg (Dc F (Aa n 0) (C9 S) (Aa n 0).j.length).2 (HZ F n S).2:=by
 have h1:Bg (Dc F (Aa n 0) (C9 S) (Aa n 0).j.length).2 (Lz F n S):=Bg.refl _
 have h2:Bg (Lz F n S) (Gs F n S):=by
  unfold Gs;cases Ac ((Aa n 1).k=9);exact VE (F:=F) (Aa n 1) (Bg.refl (Lz F n S));exact Bg.refl _
 exact ((h1.trans h2).trans ((EG F (Aa n 2)).M _).e).I _ _ _
theorem ZH{i:Nat}(hi:i<(Aa n 0).j.length):Bg (Dc F (Aa n 0) (C9 S) (i+1)).2 (HZ F n S).2:=by
 have k:=Xw (F:=F) (S:=C9 S) (Aa n 0) (i+1) ((Aa n 0).j.length-(i+1));rw [show i+1+((Aa n 0).j.length-(i+1))=(Aa n 0).j.length by omega] at k;exact k.trans iR
theorem Z1{i:Nat}(hi:i<(Aa n 0).j.length):Bg (GQ (Aa (Aa n 0) i).o (Bx (Aa (Aa (Aa n 0) i) 0)).1 (Aa (Aa n 0) i).z (Dc F (Aa n 0) (C9 S) i).2) (HZ F n S).2 :=
 (VE _ (Bg.refl _)).trans (ZH hi)
theorem tS{i:Nat}(hi:i<(Aa n 0).j.length)(he:(Dc F (Aa n 0) (C9 S) i).2.ee=0)(hd:KD (Dc F (Aa n 0) (C9 S) i).2 (Aa (Aa n 0) i).o=false):Bg (DS F (Aa (Aa (Aa n 0) i) 0) (Dc F (Aa n 0) (C9 S) i).2) (HZ F n S).2:=by
 refine (bX he (S':=GQ (Aa (Aa n 0) i).o (Bx (Aa (Aa (Aa n 0) i) 0)).1 (Aa (Aa n 0) i).z (Dc F (Aa n 0) (C9 S) i).2) ?_).trans (ZH hi);rw [V3 hd];exact he
theorem sA{i:Nat}(he:(Dc F (Aa n 0) (C9 S) i).2.ee=0)(hl:DS F (Aa (Aa (Aa n 0) i) 0) (Dc F (Aa n 0) (C9 S) i).2=(Dc F (Aa n 0) (C9 S) i).2) :
 Dc F (Aa n 0) (C9 S) (i+1)=((Dc F (Aa n 0) (C9 S) i).1++[.mk (Aa (Aa n 0) i).k (Aa (Aa n 0) i).o (Ea (Dc F (Aa n 0) (C9 S) i).2) (Aa (Aa n 0) i).z ((Aa (Aa n 0) i).j.map BP) Az 1 0],GQ (Aa (Aa n 0) i).o (Bx (Aa (Aa (Aa n 0) i) 0)).1 (Aa (Aa n 0) i).z (Dc F (Aa n 0) (C9 S) i).2):=by
 show (_,DS F (Aa (Aa (Aa n 0) i) 0) _)=_;rw [Yi he hl]
theorem Agx(h9:(Aa n 1).k≠9)(he:(Dc F (Aa n 0) (C9 S) (Aa n 0).j.length).2.ee=0):Bg (DS F (Aa n 1) (Dc F (Aa n 0) (C9 S) (Aa n 0).j.length).2) (HZ F n S).2:=by
 have h1:Bg (DS F (Aa n 1) (Dc F (Aa n 0) (C9 S) (Aa n 0).j.length).2) (DS F (Aa n 1) (Lz F n S)):=bX he he
 have h2:Bg (DS F (Aa n 1) (Lz F n S)) (Gs F n S):=by
  unfold Gs;rw [Aq h9];exact Bg.refl _
 exact ((h1.trans h2).trans ((EG F (Aa n 2)).M _).e).I _ _ _
theorem SC{k:Nd}(h:k.k=9):(Bx k).1=Az:=by
 unfold Bx;cases !Kc k;rw [h];rfl;rfl
theorem aY(h:(Aa n 1).k≠9→(Dc F (Aa n 0) (C9 S) (Aa n 0).j.length).2.ee=0∧DS F (Aa n 1) (Dc F (Aa n 0) (C9 S) (Aa n 0).j.length).2=(Dc F (Aa n 0) (C9 S) (Aa n 0).j.length).2) :
 Gs F n S = { (Dc F (Aa n 0) (C9 S) (Aa n 0).j.length).2 with E:=(Bx (Aa n 1)).1 }:=by
 unfold Gs;cases h9:Ac ((Aa n 1).k=9);obtain ⟨h1,h2⟩:=h (CF h9);rw [AQ,Yi h1 h2];rfl;rw [AL,SC (AH h9)];rfl
theorem Ud(h:(Aa n 1).k≠9→E4 (Bx (Aa n 1)).1=true):Ac ((Aa n 1).k=9)=BL (Bx (Aa n 1)).1 Az:=by
 cases h9:Ac ((Aa n 1).k=9);have h1:=h (CF h9);cases h2:BL (Bx (Aa n 1)).1 Az;rfl;have e:(Bx (Aa n 1)).1=Az:=(Ru _ _).1 h2;rw [e] at h1;exact absurd h1 BT;rw [SC (AH h9)];rfl
theorem VK(F p:Nd)(S:Ak):∀ i,EU (Dc F p (C9 S) i).2
 | 0=>fun v hv=>by cases hv
 | i+1=>by
  have h1:=VK F p S i;have h2:EU (GQ (Aa p i).o (Bx (Aa (Aa p i) 0)).1 (Aa p i).z (Dc F p (C9 S) i).2):=Uc _ _ h1 (PG _);intro v hv;exact h2 v (by have:=(RE F (Aa (Aa p i) 0) (GQ (Aa p i).o (Bx (Aa (Aa p i) 0)).1 (Aa p i).z (Dc F p (C9 S) i).2)).F;rw [← this];exact hv)
theorem Vl(F p:Nd)(S:Ak)(i:Nat):(Dc F p (C9 S) i).2.D=0∧(Dc F p (C9 S) i).2.w=0:=⟨(Uw F p (C9 S) i).D,(Uw F p (C9 S) i).w⟩
end
theorem I7.aj{F:Nd}{n0 b:Nat}{TB X:List Nat}{fv:Aj}{ms mg mn mf:Nat}{pv:Nat→Aj}{sv cv rv:Aj}{w w':Ae}(h:I7 F n0 b TB X fv ms mg mn mf pv sv cv rv w){m:Nat}{es:List (List UInt8×Aj)}(hM:Do w m es)(hg:w.grownBy w' (some m))(hn:m≠ms∧m≠mg∧m≠mn∧m≠mf)(hm:n0≤m):I7 F n0 b TB X fv ms mg mn mf pv sv cv rv w':=by
 have hL:Below n0 w w':=⟨hg.os,hg.tape,hg.output,hg.size,fun k hk=>hg.block k (A2 hk h.L.hn) fun e=>by injection e with e;omega⟩;exact ⟨h.B.C hg (Fi (hM.ao h.B).symm),h.hb,h.kF.C hg Fv,h.hF,⟨h.T.hs.C hg (Fi hn.1.symm),h.T.hg.C hg (Fi hn.2.1.symm),h.T.hn.C hg (Fi hn.2.2.1.symm),h.T.hf.C hg (Fi hn.2.2.2.symm),fun s hs=>(h.T.hp s hs).aj hM hg⟩,h.L.below hL,h.tx,fun j hj=>A2 (h.xl j hj) hg.size,h.bx⟩
theorem QU(y:Bo):(Ac (y.k=0)&&(Ac (({ data:=y.name.toArray }:ByteArray).data.toList=({ data:=#[] }:ByteArray).data.toList)&&true))=BL y Az:=by
 first|rfl|(unfold BL;rw [Bool.eq_iff_iff];simp only [Bool.and_true,AA,BM];rfl)
theorem kI{F t:Nd}{S:Ak}(h:(Aa t 1).k=9):Bg (AG (true || HO (Aa t 2).j) t.z 7 ((Af F (Aa t 2)).M (Gs F t S)).2) (HZ F t S).2:=by
 have e:(HZ F t S).2=AG (Ac ((Aa t 1).k=9) || HO (Aa t 2).j) t.z 7 ((Af F (Aa t 2)).M (Gs F t S)).2:=rfl;rw [e,BU h];exact Bg.refl _
theorem Aeo{F t:Nd}(HF:MZ F)(hk:t.k=2∨t.k=6∨t.k=4)(hp:Cr t=true)(d5:count t≤1000000){n0 b:Nat}{TB X:List Nat}{S:Ak}{w:Ae}{v:Aj}(h:Hq F n0 b TB X w)(he:S.ee=0)(a3:Bv w (fun k=>k<n0) t.j v) :
 Gg An 31 #[.pointer (some ⟨b,0,none⟩),Cd t v] w (fun r w'=>(GB F t S).2.ee=0∧Ii (GB F t S).1 w.heap.size r w'∧Hq F n0 b TB X w'∧AP (CE X) n0 w w') (Ts n0 X (GB F t S).2 w):=by
 obtain ⟨p,c,rfl,_⟩:=id a3;have aj:=a3;have i0:=h.lt;have be:=h.tb;have it:=h.nx;have htb2:∀ j∈TB,j<w.heap.size:=fun j hj=>be.2 j (be.1 j hj);have jw:=ED t;obtain ⟨fv,ms,mg,mn,mf,pv,sv,cv,rv,h⟩:=h;have i3:=h.T.hs.lt;have jf:=h.T.hg.lt;have jn:=h.T.hn.lt;have jq:=h.T.hf.lt;have jh:=h.L.hn;have g:=AP.refl (CE X) n0 w;refine JM (m:=181) Tryz.func31 J J [(0,True,_),(1,True,_)] Bp ?_;refine CT fun b3 _ ga _ g E=>?_;have iy:=h;have hw:=ga.H.lt;have gy:=ga.y;have h:=Ar h;have aj:=Ar aj;refine A5 fun b4 _ ga _ g E=>?_;have jx:=h;have gv:=ga.H.lt;have gr:=ga.y;have h:=Ar h;have aj:=Ar aj;refine Aw (fun h1=>?_) fun h1=>?_;have h1:t.k=2:=AH h1;have hf:=Ns (.inl h1) hp;have ed:=vW (F:=F) (S:=S) h1;refine Ad ?_;refine QI J ?_;intro m2 ji im b0 js hM;have ja:w.heap.size≤m2:=by have:=g.size;omega
 have g:=g.trans (AP.Y b0);replace E:=E.A b0;have h:=h.A b0;have aj:=aj.A b0;refine Ad ?_;have c6:=E.1;refine GR (fun (i:Nat) u1=>(i≤t.j.length∧H1 F t S i=S∧I7 F n0 b TB X fv ms mg mn mf pv sv cv rv u1∧Do u1 m2 (KI (t.j.take i)))∧AP (CE X) n0 w u1) _ [(0,True,_),(3,True,_),(4,True,_),(5,True,_),(24,True,_),(25,True,_)] (fun (i:Nat)=>[(26,True,.int .i64 i)]) (fun (i:Nat)=>t.j.length-i) (0) ⟨⟨CW _,rfl,h,hM⟩,g⟩ (A6 (A7 E.U) (A6 (A7 E.J) (Di _))) Bp ?_;clear E;rintro i u1 ⟨e7,dv⟩ ⟨B3,B4,_⟩;replace B3:Ax _ _ _ _:=B3;replace B4:Ax _ _ _ _:=B4;have g:=dv;obtain ⟨hi,a9,h,hM⟩:=e7;have aj:=a3.gt dv (fun k h=>h);have E:=GX (L:=[(b4,_,_),(b3,_,_)]) c6 ⟨B4,B3,Cc⟩ rfl;refine Aw (fun h2=>?_) fun h2=>?_;have h2:i<t.j.length:=by simp only [BM] at h2;omega
 obtain ⟨e0,p1,c1,hcell,ah⟩:=Ba aj (i:=i) h2;have bh:=hf _ (NY h2);have eh:=(OD bh.1 bh.2).1;refine A5 fun _ _ ga _ g E=>?_;have i9:=h;have ho:=ga.H.lt;have gz:=ga.y;have h:=Ar h;have hM:=Ar hM;have ah:=Ar ah;refine Cz fun _ ga Ca g E h=>?_
 have ah:=Co ah;have hM:=hM.C ga (Fi (hM.ao Ca));refine Ai (Al (Am ?_));refine Kb [3,3,0,0,3,3,0,1] ?_;refine Ad ?_;refine FG J (ZF (F:=t) hM (Ab J) (Ab J)) ?_;refine Ad ?_;refine EL J G1 J J J (GS _ _ _ _) ((fun ch w' hz=>PT he BT (by rw [ed];exact kO h2 a9) hz g)) ?_;rintro _ _ ⟨rfl,ec,ga⟩;refine A4 fun g E=>?_;have h:=AV h;have hM:=AV hM;have ah:=AV ah;have cw:Ge t i=false:=by simpa using ec
 refine Ad ?_;refine Ph J Ma SQ hM (dE cw) (Ab J) (Ab J) Bd ?_;intro wm fh bz jm;replace E:=E.aj hM bz;have g:=Cw g bz O;have ah:=ah.C bz Fv;have h:=h.aj hM bz ⟨O,O,O,O⟩ O;replace hM:=fh;refine Ad ?_;obtain ⟨AU,p2,c2,i8,_⟩:=Ba ah (i:=0) O;refine Ad ?_;refine G0 J UV J J (cM (Aa (Aa t i) 0) _ _ h.px) ((fun ch w' hz=>PT he BT (by rw [ed,← LK];exact mG h2 a9 cw) hz g)) ?_;rintro _ _ ⟨rfl,dl,ga⟩;refine A4 fun g E=>?_;have h:=AV h;have hM:=AV hM;refine Ad ?_;refine Ci [26,0,3,4,5,24,25] ?_;refine Ai (fun a ha=>?_);exact ⟨i+1,ha,⟨⟨h2,uI a9 cw dl,h,by rw [Uk h2];exact hM⟩,g⟩,(A6 (A7 E.g2) (A6 (A7 E.U) (Di _))),O⟩;have h2:i=t.j.length:=by simp only [CB] at h2;omega
 subst h2;rw [a9] at ed;refine Ad ?_;refine AO (Mf t _ _ _ [b3,b4] aj d5 (E.Q Br) g.size) ?_;rintro _ _ ⟨⟨je,jk,rfl,fc,ck⟩,ga⟩;refine A4 fun g E=>?_;have h:=AV h;refine Cz fun _ ga Ca g E h=>?_
 have ck:=ck.C ga Ch;refine AN ?_;rw [ed];exact ⟨he,BO (t:=BP t) rfl (ck.W fc),h.px,g⟩;have h1:t.k≠2:=CF h1;refine Aw (fun h3=>?_) fun h3=>?_;have h3:t.k=6:=AH h3;obtain ⟨iq,i2,_⟩:=SK h3 hp;have ed:=Aez (F:=F) (S:=S) h3;obtain ⟨e0,p1,c1,hcell,ah⟩:=Ba aj (i:=0) O;refine Ad ?_;refine G0 J UV J J (cM (Aa t 0) _ _ h.px) ((fun ch w' hz=>PT he BT (by rw [ed,LK];exact Bg.refl _) hz g)) ?_;rintro _ _ ⟨rfl,dd,ga⟩;refine A4 fun g E=>?_;have h:=AV h;have aj:=AV aj;refine Ad ?_;refine AO (Mf t _ _ _ [b3,b4] aj d5 (E.Q Br) g.size) ?_;rintro _ _ ⟨⟨ju,i4,rfl,f4,c5⟩,ga⟩;refine A4 fun g E=>?_;have h:=AV h;refine Cz fun _ ga Ca g E h=>?_
 have c5:=c5.C ga Ch;refine AN ?_;rw [ed,LK,dd];exact ⟨he,BO (t:=BP t) rfl (c5.W f4),h.px,g⟩;have h3:t.k≠6:=CF h3;have dp:t.k=4:=(hk.resolve_left h1).resolve_left h3;have ed:=kL (F:=F) (S:=S) dp;obtain ⟨f5,⟨fq,fm⟩,jc,ej,dt⟩:=OV dp hp;have jb:=Sw f5;have Ga:Eh (Aa t 2)=true:=by unfold Eh;rw [ej,dt];rfl
 have d1:D1 1000001 F 57 (Aa t 2) (Af F (Aa t 2)).M:=(Abs HF _ (Aa t 2) (Ao _)).M Ga;have jl:=ED (Aa t 0);have i6:=ED (Aa t 1);obtain ⟨e0,p0,c0,cd,cb⟩:=Ba a3 (i:=0) O;obtain ⟨_,p1,c1,a5,b5⟩:=Ba a3 (i:=1) O;obtain ⟨_,p2,c2,a6,a4⟩:=Ba a3 (i:=2) O;have ap:E5 p<n0:=Gi a3 (show 0<t.j.length by omega);refine Ad ?_;refine AO (Ls t _ _ _) ?_;rintro _ _ ⟨rfl,ga⟩;refine A4 fun g E=>?_;have h:=AV h;refine A5 fun b8 _ ga _ g E=>?_;have jj:=h;have hy:=ga.H.lt;have hu:=ga.y;have h:=Ar h;refine Cz fun _ ga Ca g E h=>?_
 refine Ai (Al (Am (Au (AE AY J (AM Bh J (E.g2.y J) (Dk AC J J O e0 (Ct A3 J J (cd.gt g ap) (AO (Ls (Aa t 0) _ _ _) ?_))))))));rintro _ _ ⟨rfl,ga⟩;refine A4 fun g E=>?_;have h:=AV h;refine A5 fun b9 _ ga _ g E=>?_;have iv:=h;have ii:=ga.H.lt;have hv:=ga.y;have h:=Ar h;refine Cz fun _ ga Ca g E h=>?_
 refine Ad ?_;refine Fe _ J Jm MP (Bk J CH) J J ?_;intro e9 jr au;have ix:=Dw au g.size;have dw:=h;have ey:=au.H.lt;have f3:=au.y;have an:=au.H;have g:=BZ g au.g;replace E:=E.A au.g;have h:=h.A (au.g);refine Ad ?_;refine Ik J Pp (Ab J) (Ab J) J h.B J J ?_;intro fg bi gs f7;replace E:=E.ae bi h.B rfl;have an:=au.H;have an:=an.C bi (Fi (Ln an h.B rfl));have dn:AP (CE X) n0 _ fg:=J4 h.B rfl h.hb h.bx bi;have g:=Hc g dn;have h:=h.gt dn f7;refine Ad ?_;refine Ik J Oy (Ab J) Bd J h.B J J ?_;intro gg bn ij fe;replace E:=E.ae bn h.B rfl;have an:=an.C bn (Fi (Ln an h.B rfl));have dz:AP (CE X) n0 _ gg:=J4 h.B rfl h.hb h.bx bn;have g:=Hc g dz;have h:=h.gt dz fe;refine Ad ?_;refine Ik J QA (Ab J) Bd J h.B J J ?_;intro e6 bt ib gf;replace E:=E.ae bt h.B rfl;have an:=an.C bt (Fi (Ln an h.B rfl));have dm:AP (CE X) n0 _ e6:=J4 h.B rfl h.hb h.bx bt;have g:=Hc g dm;have h:=h.gt dm gf;refine Ai (Al (Am (Au (Ap J (AO (Adc (S:=S) h (Ou an O J BT) (fun k hk hm=>by have e:e9=k:=(by injection hk);have:=dw.xl k hm;omega)) ?_)))));rintro iw jv ⟨rfl,h,fu⟩;refine EZ fu fun g E=>?_;refine Ai (Al (Am (Am (Au (AE AY J (AM Bh J (E.g3.y J) (Dk AC J J O e0 (AE AY J (AM Bh J ((cd.gt g ap).one (i:=4) J) (EI AC J (Ap J (Ai (Al (DF (?_)))))))))))))));have di:=E.1
 refine GR (fun (i:Nat) u2=>(i≤(Aa t 0).j.length∧(Dc F (Aa t 0) (C9 S) i).2.ee=0∧CA F n0 b TB X none (Dc F (Aa t 0) (C9 S) i).2 u2∧∃ s,Ax u2 b9 26 (De (DJ (Aa t 0)) s)∧Dp [b3,b4,b8,b9] w.heap.size u2 (Dc F (Aa t 0) (C9 S) i).1 s)∧AP (CE X) n0 w u2) _ [(0,True,_),(3,True,_),(4,True,_),(8,True,_),(9,True,_),(60,True,_),(61,True,_),(62,True,_),(63,True,_),(64,True,_),(65,True,_),(66,True,_),(67,True,_),(68,True,_),(69,True,_),(70,True,_),(71,True,_),(72,True,_),(73,True,_),(74,True,_),(75,True,_),(76,True,_),(77,True,_),(79,True,_),(80,True,_),(81,True,_),(82,True,_),(83,True,_),(84,True,_)] (fun (i:Nat)=>[(85,True,.int .i64 i)]) (fun (i:Nat)=>(Aa t 0).j.length-i) (0) ⟨⟨CW _,he,h,_,E.J,Kr _ _ _⟩,g⟩ (A6 (A7 E.g3) (A6 (A7 E.g2) (A6 (A7 E.U) (Di _)))) Bp ?_;clear E;rintro i u2 ⟨fp,e8⟩ ⟨B3,B4,B8,_⟩;replace B3:Ax _ _ _ _:=B3;replace B4:Ax _ _ _ _:=B4;replace B8:Ax _ _ _ _:=B8;have g:=e8;obtain ⟨hi,ai,h,s,B9,hO⟩:=fp;obtain ⟨sa,sc,rfl⟩:=hO.slice;have h8:=Wm F (Aa t 0) (C9 S) i;have E:=GX (L:=[(b9,_,_),(b8,_,_),(b4,_,_),(b3,_,_)]) di ⟨B9,B8,B4,B3,Cc⟩ rfl;refine Am (Au (GG J J (Ai (Al (Am (Cv J (fun h4=>?_) (fun h4=>?_)))))));have h4:i<(Aa t 0).j.length:=by simp only [BM] at h4;omega
 obtain ⟨ef,pf,cf,d7,b7⟩:=Ba cb (i:=i) h4;have eu:E5 p0<n0:=Gi cb h4;have bh:=Ns (.inr fq) fm _ (NY h4);have eh:=(OD bh.1 bh.2).1;have iz:=HH h4;have il:=HH (t:=(Aa (Aa t 0) i)) (i:=0) O;have ik:=ED (Aa (Aa (Aa t 0) i) 0);have df:=XF F (Aa t 0) S i;have fx:=Vl F (Aa t 0) S i;have ag:=b7.gt g (fun k h=>h);have bo:=hO.lt;refine CJ (Al (Am (DF (Am (Au (Dk AC J J O ef (Ct A3 J J (d7.gt g eu) (A5 fun a8 _ ga _ g E=>?_))))))));have h7:=h;have gk:=ga.H.lt;have f0:=ga.y;have hO:=Bq hO;have h:=Ar h;have ag:=Ar ag;refine Cz fun _ ga Ca g E h=>?_
 have ag:=Co ag;have hO:=AK hO;refine Ai (Al (Am (Am (Au (?_)))));obtain ⟨gq,fo,f1,ft,fy,e5,jd,fw,fb,vs,ce,h⟩:=h;obtain ⟨l,hl⟩:∃ l,ce[(Dc F (Aa t 0) (C9 S) i).2.w]? = some l:=⟨_,Ei (by have:=h.sl;omega)⟩;obtain ⟨q,hq⟩:∃ q,vs[(Dc F (Aa t 0) (C9 S) i).2.w]? = some q:=⟨_,Ei (by have:=h.sl;have:=h.sr.len;omega)⟩;obtain ⟨pa,pc,rfl,_,cp⟩:=Ta h.so;obtain ⟨pi,ci,rfl,i5,_⟩:=Sm (h.sr.row _ _ _ hq hl);have jp:0<vs.length:=by have:=h.sl;have:=h.sr.len;omega
 have iu:l.length≤1000000:=by
  have hm:l∈ce:=GN hl;have:=(List.sublist_flatten_of_mem hm).length_le;rw [h.fl] at this;have:=df.vl;omega
 refine Ap J (C1 J (AE JK J (AM Kg J (h.B.y J) (AR J (fun _=>CS Kl (Ab J) Bd (fun _=>O) (fun _=>(cp _ _ hq).1)) (AM Pn J (by have q:=(cp _ _ hq).2;rw [fx.2] at q;exact q) (EI OH J (Ap J (Ai (Al (DF (?_)))))))))));have c8:=E.1
 refine GR (fun (j:Nat) u3=>(j≤l.length∧((l.take j).any fun v=>Ac (v.name=(Aa (Aa t 0) i).o))=false∧EX F n0 b TB X none (Dc F (Aa t 0) (C9 S) i).2 gq fo f1 ft fy e5 (.slice pa vs.length pc) fw fb vs ce u3∧Dp [b3,b4,b8,b9] w.heap.size u3 (Dc F (Aa t 0) (C9 S) i).1 (.slice sa (Dc F (Aa t 0) (C9 S) i).1.length sc))∧AP (CE X) n0 w u3) _ [(0,True,_),(3,True,_),(4,True,_),(8,True,_),(9,True,_),(11,True,_),(60,True,_),(61,True,_),(62,True,_),(63,True,_),(64,True,_),(65,True,_),(66,True,_),(67,True,_),(68,True,_),(69,True,_),(70,True,_),(71,True,_),(72,True,_),(73,True,_),(74,True,_),(75,True,_),(76,True,_),(77,True,_),(79,True,_),(80,True,_),(81,True,_),(82,True,_),(83,True,_),(84,True,_),(85,True,_),(86,True,_),(87,True,_),(88,True,_),(89,True,_),(90,True,_),(91,True,_),(92,True,_),(93,True,_),(94,True,_),(95,True,_)] (fun (j:Nat)=>[(96,True,.int .i64 j)]) (fun (j:Nat)=>l.length-j) (0) ⟨⟨CW _,rfl,h,hO.sub DZ⟩,g⟩ (A6 (A7 E.g4) (A6 (A7 E.g3) (A6 (A7 E.g2) (A6 (A7 E.U) (A6 (A7 E.J) (Di _)))))) Bp ?_;clear E;rintro j u3 ⟨fk,de⟩ ⟨B3,B4,B8,B9,cj,_⟩;replace B3:Ax _ _ _ _:=B3;replace B4:Ax _ _ _ _:=B4;replace B8:Ax _ _ _ _:=B8;replace B9:Ax _ _ _ _:=B9;replace cj:Ax _ _ _ _:=cj;have g:=de;clear h cp hO
 obtain ⟨hj,cq,h,hO⟩:=fk;obtain ⟨i1,jt,e',_,db⟩:=Sm (h.sr.row _ _ _ hq hl);injection e' with AU _ e2;subst AU e2;have ag:=b7.gt de (fun k h=>h);have E:=GX (L:=[(a8,_,_),(b9,_,_),(b8,_,_),(b4,_,_),(b3,_,_)]) c8 ⟨cj,B9,B8,B4,B3,Cc⟩ rfl;refine Aw (fun h5=>?_) fun h5=>?_;have h5:j<l.length:=by simp only [BM] at h5;omega
 obtain ⟨hpe,jo⟩:=db j h5;have a9:((l.take (j+1)).any fun v=>Ac (v.name=(Aa (Aa t 0) i).o))=Ac (l[j].name=(Aa (Aa t 0) i).o):=by rw [E8 h5,List.any_append,cq,Bool.false_or];simp
 refine A5 fun _ _ bk _ g E=>?_;have dk:=h;have e3:=bk.H.lt;have f6:=bk.y;have hO:=hO.new bk;have h:=h.A (bk.g);have h:=dk.ak bk;refine Cz fun _ ga Ca g E h=>?_
 have hO:=AK hO;refine Ad ?_;refine EL J G1 J J J (GS _ _ _ _) ((fun ch w' hz=>PT ai BT ((h.bw hl h5 (fun e=>by simpa using e) hz.1).trans (by rw [ed];exact Z1 h4)) hz g)) ?_;rintro _ _ ⟨rfl,cu,ga⟩;refine A4 fun g E=>?_;have h:=AV h;have hO:=AV hO;refine Ad ?_;refine Ci [96,0,3,4,8,9,11,60,61,62,63,64,65,66,67,68,69,70,71,72,73,74,75,76,77,79,80,81,82,83,84,85,86,87,88,89,90,91,92,93,94,95] ?_;refine Ai (fun a ha=>?_);exact ⟨j+1,ha,⟨⟨h5,by rw [a9];simpa using cu,h.sub be.1 (fun j hj=>CR _ hj),hO.sub DZ⟩,g⟩,(A6 (A7 E.g5) (A6 (A7 E.g4) (A6 (A7 E.g3) (A6 (A7 E.g2) (A6 (A7 E.U) (Di _)))))),O⟩;have h5:j=l.length:=by simp only [CB] at h5;omega
 subst h5;rw [List.take_length] at cq;have f9:KD (Dc F (Aa t 0) (C9 S) i).2 (Aa (Aa t 0) i).o=false:=by rw [h.br hl];exact cq
 replace h:=h.pc;have bo:=hO.lt;refine Ad ?_;obtain ⟨eg,pg,cg,ip,jg⟩:=Ba ag (i:=0) O;refine Ad ?_;refine G0 J WY J J (Vy (Aa (Aa (Aa t 0) i) 0) _ _ h ai O) ((fun ch w' hz=>hz.d (by rw [ed];exact tS h4 ai f9) g)) ?_;rintro _ _ ⟨rfl,ak,ga⟩;refine A4 fun g E=>?_;have h:=AV h;have ag:=AV ag;have hO:=AV hO;refine A5 fun ba _ bc _ g E=>?_;have c7:=h;have gn:=bc.H.lt;have fd:=bc.y;have hO:=hO.new bc;have h:=h.A (bc.g);have ag:=ag.A (bc.g);have h:=c7.ak bc;refine Cz fun _ ga Ca g E h=>?_
 have ag:=Co ag;have hO:=AK hO;refine Ad ?_;refine AO (Ls (Aa (Aa t 0) i) _ _ _) ?_;rintro _ _ ⟨rfl,ga⟩;refine A4 fun g E=>?_;have h:=AV h;have ag:=AV ag;have hO:=AV hO;refine A5 fun bm _ ga _ g E=>?_;have ic:=h;have gj:=ga.H.lt;have f2:=ga.y;have hO:=Bq hO;have h:=Ar h;have ag:=Ar ag;refine Cz fun _ ga Ca g E h=>?_
 have ag:=Co ag;have hO:=AK hO;refine Ad ?_;obtain ⟨_,ir,io,hh,eb⟩:=Ba ag (i:=0) O;have hZ:∀ j∈[b3,b4,b8,b9,a8,ba,bm],j<_:=E.Q Br;have bo:=hO.lt;refine Ad ?_;refine AO (Mf (Aa (Aa (Aa t 0) i) 0) _ _ _ [b3,b4,b8,b9,a8,ba,bm] eb O hZ g.size) ?_;rintro ih b6 ⟨⟨d8,du,rfl,dg,aw⟩,aq⟩;refine ⟨fun _=>aq,?_⟩;have g:=BZ g aq;replace E:=E.A aq;have h:=h.A (aq);have hO:=hO.A (aq);obtain ⟨ew,ig,gu,dj,dc,aw⟩:∃ lo,lo≤b6.heap.size∧w.heap.size≤lo∧(∀ k,(CY sa (Dc F (Aa t 0) (C9 S) i).1.length sc).ownBlock=some k→k<lo)∧(∀ j∈[b3,b4,b8,b9,a8,ba,bm],j<lo)∧EP lo [b3,b4,b8,b9,a8,ba,bm] b6 (BP (Aa (Aa (Aa t 0) i) 0)).j (.slice d8 (BP (Aa (Aa (Aa t 0) i) 0)).j.length du):=⟨_,aq.size,dg,bo,hZ,aw⟩;refine Ck fun b2 _ ga _ g E=>?_;have gp:=h;have el:=ga.H.lt;have ek:=ga.y;have hO:=Bq hO;have aw:=Bq aw;have h:=Ar h;have kr:EP ew [b3,b4,b8,b9,a8,ba,bm] _ [BP (Aa (Aa (Aa t 0) i) 0)] (.slice (some ⟨b2,0,none⟩) 1 1):=Ec (ks:=[BP (Aa (Aa (Aa t 0) i) 0)]) ⟨⟨O,fun hm=>by have:=dc b2 hm;omega⟩,DK E.J⟩ E.J.row (DG (Bv.mono aw fun k hk _=>⟨⟨hk.1.1,fun hm=>hk.1.2 (CR _ hm)⟩,hk.2⟩)) (Ao _);refine Cz fun _ ga Ca g E h=>?_
 have hO:=AK hO;have kr:=kr.C ga Ch;refine Ad ?_;refine Dx (Qu (ba::X) n0) [3,0,3,0,0,1,1,2,3,2] [0,1,0,0,0,28,60,127,255,511] CG Ag [0,1,2,3,4,5,6,7,8,9] J ?_;refine Da fun g E h=>?_;have hO:=hO.A (G.drew _);have kr:=kr.A (G.drew _);refine As 0 J J (fun _=>AB AY (Ab J)) (Bb 1 J J (fun w1 hx=>AZ Bh (Ab J) (fun _=>(E.g4.gt hx J).y J)) (As 2 J J (Bm J) (Bb 3 J J (fun w1 hx=>A8 A3 (Ab J) J (fun _=>(E.U.gt hx J).row)) (Bb 4 J J (fun w1 hx=>A8 Cf (Ab J) J (fun _=>(E.bf hx).g2.row)) (AW 5 J J ?_)))));refine Bt (L':=[6,7,8,9]) [3,0,3,0,0,2,1,2,3,2] J J J ?_;refine EL J Tl J J J (Up (DJ (Aa (Aa t 0) i)) _ _ _ (Bx (Aa (Aa (Aa t 0) i) 0)).1 h ai df O) ((fun ch w' hz=>hz.d (by rw [ed];exact Z1 h4) g)) ?_;rintro ie hr ⟨gd,rfl,h,a7⟩;refine EZ a7 fun g E=>?_;have hO:=hO.gt a7 rfl;have kr:=kr.au a7;refine Bs (a7) ?_;refine AW 6 J J ?_;refine Bt (L':=[7,8,9]) [3,0,3,0,0,2,1,2,3,2] J J J ?_;refine Ck fun _ _ ar _ g E=>?_;have fj:=h;have ep:=ar.H.lt;have eo:=ar.y;have hO:=hO.new ar;have kr:=kr.new ar;have h:=h.A (ar.g);refine Bs (AP.Y (ar.g)) ?_;refine AW 7 J J ?_;refine DN (L':=[8,9]) [3,0,3,0,0,2,1,2,3,2] J J J J ?_;have hO:=hO.sub (Y:=[b3,b4,b8,b9]) DZ;have hOo:=hO
 refine Hx J AC Cp J (Ab J) hO (Ab J) J E.J.row (Fl (t:=.mk (Aa (Aa t 0) i).k (Aa (Aa t 0) i).o (Ea (Dc F (Aa t 0) (C9 S) i).2) (Aa (Aa t 0) i).z [BP (Aa (Aa (Aa t 0) i) 0)] Az 1 0) kr O DZ (fun j hj=>.inr (dj j hj))) (by simp;omega) Dn ⟨by have:=g.size;omega,by have q3:=E.g8.lt;have q4:=E.g7.lt;have q8:=E.g6.lt;have q9:=E.g5.lt;simp;omega⟩ ?_;intro ia gw g9 hO a2;replace E:=E.sel [false,false,false,false,false,true,true,true,true];replace E:=E.ab a2 hOo.ne Br;have g:=EQ g a2 Fo;have h:=h.aa a2 hOo O;refine DL ?_;refine As 8 J J (fun _=>AB AY (Ab J)) (AW 9 J J ?_);refine DN (L':=[]) [3,0,3,0,0,2,1,2,3,2] J J J J ?_;refine Cz fun _ ga Ca g E h=>?_
 have hO:=AK hO;refine DL ?_;refine Dt [0,3,4,8,9,11,14,15,60,61,62,63,64,65,66,67,68,69,70,71,72,73,74,75,76,77,79,80,81,82,83,84,85,86,87,88,89,90,91,92,93,94,95,96,97,109,110,111,112,113,114,115,116,117,118,119,120,121,122,123,124,125,126,127,128,129,130,131,132] ?_;refine Ad ?_;refine Ci [85,0,3,4,8,9,60,61,62,63,64,65,66,67,68,69,70,71,72,73,74,75,76,77,79,80,81,82,83,84] ?_;refine Ai (fun a ha=>?_);have en:=sA (n:=t) (S:=S) (i:=i) ai ak;rw [show (Aa (Aa t 0) i).j.map BP=[BP (Aa (Aa (Aa t 0) i) 0)] by rw [bY eh];rfl] at en;exact ⟨i+1,ha,⟨⟨h4,by rw [en];exact gd,by rw [en];exact h.sub be.1 (fun j hj=>CR _ hj),_,E.J,by rw [en];exact hO⟩,g⟩,(A6 (A7 E.g3) (A6 (A7 E.g2) (A6 (A7 E.U) (Di _)))),O⟩;have h4:i=(Aa t 0).j.length:=by simp only [CB] at h4;omega
 subst h4;refine A5 fun bb _ bp _ g E=>?_;have d3:=h;have e4:=bp.H.lt;have go:=bp.y;have hO:=hO.new bp;have h:=h.A (bp.g);have h:=d3.ak bp;refine Ai (Al (Am (Am (Au (AE AY J (AM Bh J (E.g4.y J) (Dk AC J J O e0 (AE FP J (AM Cb J ((a5.gt g ap).one (i:=0) J) (MH J J (Ai (Al (Cv J (fun h6=>?_) (fun h6=>?_))))))))))))));have h6:(Aa t 1).k≠9:=by simpa using h6
 refine Au (Ap J (AE AY J (AM Bh J (E.g4.y J) (Dk AC J J O e0 (Ct A3 J J (a5.gt g ap) (G0 J WY J J (Vy (Aa t 1) _ _ h ai O) ((fun ch w' hz=>hz.d (by rw [ed];exact Agx h6 ai) g)) ?_))))));rintro _ _ ⟨rfl,ak,ga⟩;refine A4 fun g E=>?_;have h:=AV h;have hO:=AV hO;refine Cz fun _ ga Ca g E h=>?_
 have hO:=AK hO;refine Ad ?_;obtain ⟨ff,ez,gh,fa,gl,fs,fz,gc,gi,f8,er,h⟩:=h;have e2:Gs F t S = { (Dc F (Aa t 0) (C9 S) (Aa t 0).j.length).2 with E:=(Bx (Aa t 1)).1 }:=aY (by first|exact fun _=>⟨ai,ak⟩|exact fun h9=>absurd h6 h9);refine Ad ?_;refine Fe _ J Jb FF (Bk J CH) J J ?_;intro ax dx ac;have dq:=Dw ac g.size;have a1:=h;have bv:=ac.H.lt;have bu:=ac.y;have hO:=hO.new ac;have ao:=ac.H;have g:=BZ g ac.g;replace E:=E.A ac.g;have h:=h.A (ac.g);refine Ad ?_;refine Ik J Oy (Ab J) (Ab J) J h.B J J ?_;intro ay ad ct bf;replace E:=E.ae ad h.B rfl;have ao:=ac.H.C ad (Fi (Ln ac.H h.B rfl));have am:AP (CE (bb::X)) n0 _ ay:=J4 h.B rfl h.hb h.bx ad;have g:=Hc g am;have hO:=hO.gt am rfl;have cz:ay.ownsRow n0 24 2 (.slice (some ⟨ax,0,none⟩) 1 1) 1 ([(Bx (Aa t 1)).1].flatMap Ek):=by first|exact Ou ao O rfl BT|(rw [SC h6];exact Ou ao O rfl BT)
 have h:=(a1.bh (q1:=some []) (S':={ (Dc F (Aa t 0) (C9 S) (Aa t 0).j.length).2 with E:=(Bx (Aa t 1)).1 }) ((AP.Y ac.g).trans am) bf (Dg h.so ad (.inr (DY h.so h.B rfl))) (h.sr.an ad h.B rfl) (Dg h.co ad (.inr (DY h.co h.B rfl))) cz (fun l e=>by injection e with e;subst e;exact (Vl F (Aa t 0) S _).1.symm) (fun k hk=>.inl hk) (fun k hk=>.inr (by have e:ax=k:=(by injection hk);omega)) rfl rfl).pc;rw [← e2] at h;have cy:(Gs F t S).ee=0:=by rw [e2];exact ai
 have bq:EU (Gs F t S):=by rw [e2];exact VK F (Aa t 0) S (Aa t 0).j.length
 have br:=Xz F t S;refine Ai (Al (Am (Au (Ap J (AE AY J (AM Bh J (E.g4.y J) (Dk AC J J O e0 (Ct A3 J J (a6.gt g ap) (G0 J PS J J (D1.to d1 [b3,b4,b8,b9,bb] h cy bq (a4.gt g (fun k h=>h)) br O (E.Q Br) g.size) ((fun ch w' hz=>hz.d (by rw [ed];exact (Bg.refl _).I _ _ _) g)) ?_)))))))));rintro c9 ei ⟨⟨d0,d9,rfl,bs,aa⟩,al,h,av⟩;refine EZ av fun g E=>?_;have hO:=hO.gt av rfl;refine A5 fun cr _ ga i7 g E=>?_;have dh:=h;have c4:=ga.H.lt;have cn:=ga.y;have hO:=Bq hO;have aa:=Bq aa;have h:=Ar h;refine Cz fun _ ga Ca g E h=>?_
 have hO:=AK hO;have aa:=aa.C ga Ch;refine Ad ?_;skip;refine Jg [0,3,0,3,0,1,0,1,3,2] [true,true,true,true,true,true,false,true,true,true] [0,0,2,6,14,30,0,127,255,511] CG Ag ?_;refine Da fun g E h=>?_;have hO:=hO.A (G.drew _);have aa:=aa.A (G.drew _);have EC:=E;refine Ct A3 J J E.g2.row (AE AY J (AM Bh J (E.g5.y J) (Dk AC J J O e0 (Ct A3 J J (a5.gt g ap) (AO (Mf (Aa t 1) _ _ _ [b3,b4,b8,b9,bb,cr] (b5.gt g (fun k h=>h)) O (E.Q Br) g.size) ?_)))));rintro _ _ ⟨⟨dy,d2,rfl,bg,ab⟩,ga⟩;refine A4 fun g E=>?_;have h:=AV h;have hO:=AV hO;have aa:=AV aa;refine JS J (A8 A3 (Ab J) J (fun _=>EC.J.row)) (Ck fun _ _ ga bj g E=>?_);have c3:=h;have b1:=ga.H.lt;have bw:=ga.y;have hO:=Bq hO;have aa:=Bq aa;have ab:=Bq ab;have h:=Ar h;refine Cz fun _ ga Ca g E h=>?_
 have hO:=AK hO;have aa:=aa.C ga Ch;have ab:=ab.C ga Ch;refine Ad ?_;refine Dx (Ej none) [0,3,3,3,3,0,3,3,0,1,3,3,0,1] [0,0,3,7,15,31,63,127,255,511,1023,0,2048,8191] CG Ag [0,1,2,3,4,5,6,7,8,9,10,11,12,13] J ?_;refine Da fun g E h=>?_;have hO:=hO.A (G.drew _);have aa:=aa.A (G.drew _);have ab:=ab.A (G.drew _);refine Bb 0 J J (fun w1 hx=>A8 Cf (Ab J) J (fun _=>(E.g2.C hx DD).row)) (As 1 J J (fun _=>Jj [_,_] FF J Ia (IR) J) (As 2 J J (fun _=>I9 Iv (Ab J) (Ab J) J) (As 3 J J (Bm J) (GO (L':=[5,6,7,8,9,10,11,12,13]) 4 J J J J J (fun _=>AB AY (Ab J)) (J2 (L':=[6,7,8,9,10,11,12,13]) 5 J J J J J (fun w1 hx=>AZ Bh (Ah J id) (fun _=>(E.g6.C hx DD).y J)) (GO (L':=[7,8,9,10,11,12,13]) 6 J J J J J (fun _=>CS AC (Ah J id) Bd (fun _=>O) (fun _=>e0)) (GO (L':=[8,9,10,11,12,13]) 7 J J J J J (fun _=>AB AY (Ah J id)) (J2 (L':=[9,10,11,12,13]) 8 J J J J J (fun w1 hx=>AZ Bh (Ah J id) (fun _=>((a6.gt g ap).kn hx).one (i:=4) J)) (As 11 J J (fun _=>AB H7 (Ab J)) (Bb 12 J J (fun w1 hx=>AZ Cb (Ab J) (fun _=>(E.g6.C hx DD).y J)) (AW 9 J J ?_)))))))))));refine Bt (L':=[10,13]) [0,3,3,3,3,0,3,3,0,1,3,3,0,1] J J J ?_;refine GA (fun hc=>ZC 1000001 _ _ _ _ (a4.gt g (fun k h=>h)) (L6 Ga) (by have:=Nn (Aa t 2);omega) (Ao _)) (fun da af=>?_);have g:=BZ g af;replace E:=E.A af;have h:=h.A (af);have hO:=hO.A (af)
 have aa:=aa.A (af);have ab:=ab.A (af);refine Bs ((af).O _) ?_;refine As 10 J J (fun _=>FR (Ab J) (Ah J id)) (AW 13 J J ?_);refine Bt (L':=[]) [0,3,3,3,3,0,3,3,0,1,3,3,0,1] J J J ?_;refine EL J G1 J J J (GS _ _ _ _) ((fun ch w' hz=>PT al BT (by rw [ed];first|exact kI h6|(rw [QU,← Ud (fun _=>(RQ ai ak).2)];exact Bg.refl _)) hz g)) ?_;rintro d6 d4 ⟨rfl,az,ae⟩;refine ⟨fun _=>ae,?_⟩;have g:=BZ g ae;replace E:=E.A ae;have h:=h.A (ae);have hO:=hO.A (ae);have aa:=aa.A (ae);have ab:=ab.A (ae);refine Bs ((ae).O _) ?_;refine Dt [0,3,4,8,9,16,17,60,61,62,63,64,65,66,67,68,69,70,71,72,73,74,75,76,77,79,80,81,82,83,84,85,86,134,135,136,137,138,139,140,141,142,143,144,145,146,147,148,149,150,151,152,153,154,155,156,157,158,159,160,161,162,163,164,165,166,167,168,169,170,171,172,173,174,175,176,177,178] ?_;refine Cz fun _ ga Ca g E h=>?_
 have hO:=AK hO;have aa:=aa.C ga Ch;have ab:=ab.C ga Ch;refine AN ?_;have hz:(Ac ((Aa t 1).k=9) || HO (Aa t 2).j)=true:=by first|(rw [BU h6];rfl)|(rw [Ud (fun _=>(RQ ai ak).2),← QU];exact az)
 have e:HZ F t S=(AF t [AF (Aa t 0) (Dc F (Aa t 0) (C9 S) (Aa t 0).j.length).1 Az,BP (Aa t 1),((Af F (Aa t 2)).M (Gs F t S)).1] Az,AG (Ac ((Aa t 1).k=9) || HO (Aa t 2).j) t.z 7 ((Af F (Aa t 2)).M (Gs F t S)).2):=rfl;rw [ed,e,hz];exact ⟨al,BO (t:=AF t [AF (Aa t 0) (Dc F (Aa t 0) (C9 S) (Aa t 0).j.length).1 Az,BP (Aa t 1),_] Az) rfl (Ec (ks:=[AF (Aa t 0) (Dc F (Aa t 0) (C9 S) (Aa t 0).j.length).1 Az,BP (Aa t 1),_]) ⟨bj,DK E.J⟩ E.J.row (Gw (hO.sub (Y:=[b3,b4,b8,b9]) DZ).kd (Gw (ab.W bg) (DG (aa.W bs)))) (Ao _)),(h.sub be.1 (fun j hj=>CR _ hj)).px,g⟩;have h6:(Aa t 1).k=9:=by simpa using h6
 refine Ad ?_;obtain ⟨ff,ez,gh,fa,gl,fs,fz,gc,gi,f8,er,h⟩:=h;have e2:Gs F t S = { (Dc F (Aa t 0) (C9 S) (Aa t 0).j.length).2 with E:=(Bx (Aa t 1)).1 }:=aY (by first|exact fun _=>⟨ai,ak⟩|exact fun h9=>absurd h6 h9);refine Ad ?_;refine Fe _ J Jb FF (Bk J CH) J J ?_;intro ax dx ac;have dq:=Dw ac g.size;have a1:=h;have bv:=ac.H.lt;have bu:=ac.y;have hO:=hO.new ac;have ao:=ac.H;have g:=BZ g ac.g;replace E:=E.A ac.g;have h:=h.A (ac.g);refine Ad ?_;refine Ik J Oy (Ab J) (Ab J) J h.B J J ?_;intro ay ad ct bf;replace E:=E.ae ad h.B rfl;have ao:=ac.H.C ad (Fi (Ln ac.H h.B rfl));have am:AP (CE (bb::X)) n0 _ ay:=J4 h.B rfl h.hb h.bx ad;have g:=Hc g am;have hO:=hO.gt am rfl;have cz:ay.ownsRow n0 24 2 (.slice (some ⟨ax,0,none⟩) 1 1) 1 ([(Bx (Aa t 1)).1].flatMap Ek):=by first|exact Ou ao O rfl BT|(rw [SC h6];exact Ou ao O rfl BT)
 have h:=(a1.bh (q1:=some []) (S':={ (Dc F (Aa t 0) (C9 S) (Aa t 0).j.length).2 with E:=(Bx (Aa t 1)).1 }) ((AP.Y ac.g).trans am) bf (Dg h.so ad (.inr (DY h.so h.B rfl))) (h.sr.an ad h.B rfl) (Dg h.co ad (.inr (DY h.co h.B rfl))) cz (fun l e=>by injection e with e;subst e;exact (Vl F (Aa t 0) S _).1.symm) (fun k hk=>.inl hk) (fun k hk=>.inr (by have e:ax=k:=(by injection hk);omega)) rfl rfl).pc;rw [← e2] at h;have cy:(Gs F t S).ee=0:=by rw [e2];exact ai
 have bq:EU (Gs F t S):=by rw [e2];exact VK F (Aa t 0) S (Aa t 0).j.length
 have br:=Xz F t S;refine Ai (Al (Am (Au (Ap J (AE AY J (AM Bh J (E.g4.y J) (Dk AC J J O e0 (Ct A3 J J (a6.gt g ap) (G0 J PS J J (D1.to d1 [b3,b4,b8,b9,bb] h cy bq (a4.gt g (fun k h=>h)) br O (E.Q Br) g.size) ((fun ch w' hz=>hz.d (by rw [ed];exact (Bg.refl _).I _ _ _) g)) ?_)))))))));rintro c9 ei ⟨⟨d0,d9,rfl,bs,aa⟩,al,h,av⟩;refine EZ av fun g E=>?_;have hO:=hO.gt av rfl;refine A5 fun cr _ ga _ g E=>?_;have dh:=h;have c4:=ga.H.lt;have cn:=ga.y;have hO:=Bq hO;have aa:=Bq aa;have h:=Ar h;refine Cz fun _ ga Ca g E h=>?_
 have hO:=AK hO;have aa:=aa.C ga Ch;refine Ad ?_;skip;refine Jg [0,3,0,3,0,1,0,1,3,2] [true,true,true,true,true,true,false,true,true,true] [0,0,2,6,14,30,0,127,255,511] CG Ag ?_;refine Da fun g E h=>?_;have hO:=hO.A (G.drew _);have aa:=aa.A (G.drew _);have EC:=E;refine Ct A3 J J E.g2.row (AE AY J (AM Bh J (E.g5.y J) (Dk AC J J O e0 (Ct A3 J J (a5.gt g ap) (AO (Mf (Aa t 1) _ _ _ [b3,b4,b8,b9,bb,cr] (b5.gt g (fun k h=>h)) O (E.Q Br) g.size) ?_)))));rintro _ _ ⟨⟨dy,d2,rfl,bg,ab⟩,ga⟩;refine A4 fun g E=>?_;have h:=AV h;have hO:=AV hO;have aa:=AV aa;refine JS J (A8 A3 (Ab J) J (fun _=>EC.J.row)) (Ck fun _ _ ga bj g E=>?_);have c3:=h;have b1:=ga.H.lt;have bw:=ga.y;have hO:=Bq hO;have aa:=Bq aa;have ab:=Bq ab;have h:=Ar h;refine Cz fun _ ga Ca g E h=>?_
 have hO:=AK hO;have aa:=aa.C ga Ch;have ab:=ab.C ga Ch;refine Ad ?_;refine Dx (Ej none) [0,3,3,3,3,0,3,3,0,1,3,3,0,1] [0,0,3,7,15,31,63,127,255,511,1023,0,2048,8191] CG Ag [0,1,2,3,4,5,6,7,8,9,10,11,12,13] J ?_;refine Da fun g E h=>?_;have hO:=hO.A (G.drew _);have aa:=aa.A (G.drew _);have ab:=ab.A (G.drew _);refine Bb 0 J J (fun w1 hx=>A8 Cf (Ab J) J (fun _=>(E.g2.C hx DD).row)) (As 1 J J (fun _=>Jj [_,_] FF J Ia (IR) J) (As 2 J J (fun _=>I9 Iv (Ab J) (Ab J) J) (As 3 J J (Bm J) (GO (L':=[5,6,7,8,9,10,11,12,13]) 4 J J J J J (fun _=>AB AY (Ab J)) (J2 (L':=[6,7,8,9,10,11,12,13]) 5 J J J J J (fun w1 hx=>AZ Bh (Ah J id) (fun _=>(E.g6.C hx DD).y J)) (GO (L':=[7,8,9,10,11,12,13]) 6 J J J J J (fun _=>CS AC (Ah J id) Bd (fun _=>O) (fun _=>e0)) (GO (L':=[8,9,10,11,12,13]) 7 J J J J J (fun _=>AB AY (Ah J id)) (J2 (L':=[9,10,11,12,13]) 8 J J J J J (fun w1 hx=>AZ Bh (Ah J id) (fun _=>((a6.gt g ap).kn hx).one (i:=4) J)) (As 11 J J (fun _=>AB H7 (Ab J)) (Bb 12 J J (fun w1 hx=>AZ Cb (Ab J) (fun _=>(E.g6.C hx DD).y J)) (AW 9 J J ?_)))))))))));refine Bt (L':=[10,13]) [0,3,3,3,3,0,3,3,0,1,3,3,0,1] J J J ?_;refine GA (fun hc=>ZC 1000001 _ _ _ _ (a4.gt g (fun k h=>h)) (L6 Ga) (by have:=Nn (Aa t 2);omega) (Ao _)) (fun da af=>?_);have g:=BZ g af;replace E:=E.A af;have h:=h.A (af);have hO:=hO.A (af)
 have aa:=aa.A (af);have ab:=ab.A (af);refine Bs ((af).O _) ?_;refine As 10 J J (fun _=>FR (Ab J) (Ah J id)) (AW 13 J J ?_);refine Bt (L':=[]) [0,3,3,3,3,0,3,3,0,1,3,3,0,1] J J J ?_;refine EL J G1 J J J (GS _ _ _ _) ((fun ch w' hz=>PT al BT (by rw [ed];first|exact kI h6|(rw [QU,← Ud (fun _=>(RQ ai ak).2)];exact Bg.refl _)) hz g)) ?_;rintro d6 d4 ⟨rfl,az,ae⟩;refine ⟨fun _=>ae,?_⟩;have g:=BZ g ae;replace E:=E.A ae;have h:=h.A (ae);have hO:=hO.A (ae);have aa:=aa.A (ae);have ab:=ab.A (ae);refine Bs ((ae).O _) ?_;refine Dt [0,3,4,8,9,16,17,60,61,62,63,64,65,66,67,68,69,70,71,72,73,74,75,76,77,79,80,81,82,83,84,85,86,134,135,136,137,138,139,146,147,148,149,150,151,152,153,154,155,156,157,158,159,160,161,162,163,164,165,166,167,168,169,170,171,172,173,174,175,176,177,178] ?_;refine Cz fun _ ga Ca g E h=>?_
 have hO:=AK hO;have aa:=aa.C ga Ch;have ab:=ab.C ga Ch;refine AN ?_;have hz:(Ac ((Aa t 1).k=9) || HO (Aa t 2).j)=true:=by first|(rw [BU h6];rfl)|(rw [Ud (fun _=>(RQ ai ak).2),← QU];exact az)
 have e:HZ F t S=(AF t [AF (Aa t 0) (Dc F (Aa t 0) (C9 S) (Aa t 0).j.length).1 Az,BP (Aa t 1),((Af F (Aa t 2)).M (Gs F t S)).1] Az,AG (Ac ((Aa t 1).k=9) || HO (Aa t 2).j) t.z 7 ((Af F (Aa t 2)).M (Gs F t S)).2):=rfl;rw [ed,e,hz];exact ⟨al,BO (t:=AF t [AF (Aa t 0) (Dc F (Aa t 0) (C9 S) (Aa t 0).j.length).1 Az,BP (Aa t 1),_] Az) rfl (Ec (ks:=[AF (Aa t 0) (Dc F (Aa t 0) (C9 S) (Aa t 0).j.length).1 Az,BP (Aa t 1),_]) ⟨bj,DK E.J⟩ E.J.row (Gw (hO.sub (Y:=[b3,b4,b8,b9]) DZ).kd (Gw (ab.W bg) (DG (aa.W bs)))) (Ao _)),(h.sub be.1 (fun j hj=>CR _ hj)).px,g⟩
theorem Abk:(II.all fun s=>(Ac (E4 ⟨Ml s,[]⟩ = !Ac (8≤Ml s))) && !Ac (Ml s=0))=true:=Ag
theorem uG{s:List UInt8}(h:ID s=true):E4 ⟨Ml s,[]⟩=(!Ac (8≤Ml s))∧Ml s≠0:=by
 have:=CC.1 Abk s ((Le _ _).1 h);simpa using this
theorem We{k:Nd}(h:He k=true):Xi (Bx k).1∧BL (Bx k).1 Az=false:=by
 unfold He at h;unfold Bx;cases h8:Ac (k.k=8);rw [h8] at h;cases h7:Ac (k.k=7);rw [h7] at h;cases h;rw [h7] at h;have h:(ID k.o&&Kc k)=true:=h;obtain ⟨h1,h2⟩:=Dr.1 h;rw [h2,h1,show Ac (k.k=9)=false from Aq (by have:=AH h7;omega)];obtain ⟨g1,g2⟩:=uG h1;refine ⟨g1,?_⟩;cases q:BL (⟨Ml k.o,[]⟩:Bo) Az;exact q;have e:=(Ru _ _).1 q;exact absurd (congrArg Bo.k e) g2;rw [h8] at h;have h:(FK k.o&&Kc k)=true:=h;obtain ⟨h1,h2⟩:=Dr.1 h;rw [h2,h1,show Ac (k.k=9)=false from Aq (by have:=AH h8;omega)];refine ⟨?_,?_⟩;show E4 ⟨4,k.o⟩=true;have e:Mb ⟨4,k.o⟩=true:=h1;unfold E4;rw [e,Bool.or_true];cases q:BL (⟨4,k.o⟩:Bo) Az;exact q;have e:=(Ru _ _).1 q;exact absurd (congrArg Bo.k e) (show ¬ (4:Int)=0 by decide)
theorem Qq{kd:Int}{s:List UInt8}{F:Nd}(h:0≤(A9 F kd s).2):∃ j,∃ hj:j<F.j.length,(Aa F j).k=kd∧(Aa F j).o=s∧(A9 F kd s).1=Aa F j:=by
 obtain ⟨j,hj,h1,h2,_⟩:=UJ kd s F.j 0 h;refine ⟨j,hj,by rw [Em hj];exact h1,?_,by rw [Em hj];exact h2⟩
 have e:∀ (l:List Nd) (k:Nat),0≤(GI kd s l k).2→(GI kd s l k).1.o=s:=by
  intro l
  induction l with
  | nil=>intro k h;exact absurd h (show ¬ (0:Int)≤-1 by decide)
  | cons d l ih =>
   intro k h;unfold GI at h ⊢;cases hd:Ac (d.k=kd);rw [hd] at h;exact ih k h;rw [hd] at h;cases hs:Ac (d.o=s);rw [hs] at h;exact ih (k+1) h;exact AH hs
 have h3:=e F.j 0 h;rw [h2] at h3;rw [Em hj];exact h3
theorem T6{F:Nd}{i j:Nat}(hj:j<i)(hi:i<F.j.length)(e:(Aa F j).o=(Aa F i).o):Ge F i=true:=by
 unfold Ge;rw [List.any_eq_true];refine ⟨Aa F j,?_,BU e⟩;rw [Em O,List.mem_take_iff_getElem];exact ⟨j,O,rfl⟩
theorem Aax{F:Nd}(hv:Hf F=true)(hd:∀ j,j<F.j.length→Ge F j=false):MZ F:=by
 obtain ⟨h1,hp⟩:=WS hv;have aa:=WE h1 hp;refine ⟨fun s hs=>?_,fun s hs=>?_,fun s f hf=>?_,fun s hs=>?_⟩;obtain ⟨j,hj,k4,_,e⟩:=Qq hs;rw [e];obtain ⟨_,_,ht,_⟩:=OV k4 (aa _ (NY hj)).2;unfold GV;rcases ht with ht|ht;rw [(We ht).2];exact (Aq (Aea ht)).symm;have h9:=(IB ht).1;rw [SC h9,BU h9];rfl;obtain ⟨j,hj,k6,_,e⟩:=Qq hs;rw [e];exact (We (SK k6 (aa _ (NY hj)).2).2.1).1;unfold F8 at hf
 cases hq:F.j.find? (Kk s) with
 | none=>rw [hq] at hf;cases hf
 | some d =>
  rw [hq] at hf;have hm:=List.mem_of_find?_eq_some hq
  have h2:d.k=2:=by
   have:=List.find?_some hq;unfold Kk at this;simp only [Bool.not_eq_true',Gc,Bool.not_eq_false',BM] at this;exact this.1
  have ad:=(aa d hm).2;dsimp only at hf
  cases hl:HV G5 d.j with
  | none=>rw [hl] at hf;cases hf
  | some l =>
   rw [hl] at hf;obtain ⟨z,hz,e⟩:=Vg _ _ hl f hf;have ab:=Ns (.inl h2) ad z hz;obtain ⟨ae,ac⟩:=OD ab.1 ab.2;unfold G5 at e;rw [ab.1,ae] at e;have e:(bif (Bx (Oe z)).2 then some ⟨z.o,(Bx (Oe z)).1⟩ else none)=some f:=e;cases h2:(Bx (Oe z)).2;rw [h2] at e;cases e;rw [h2] at e;injection e with e;subst e;exact (We ac).1
 obtain ⟨i,hi,k6,e6,_⟩:=Qq hs;rcases Int.lt_or_le (A9 F 4 s).2 0 with h|h;exact h;obtain ⟨j,hj,k4,e4,_⟩:=Qq h;rcases Nat.lt_trichotomy i j with q|q|q;have:=T6 q hj (e6.trans e4.symm);rw [hd j hj] at this;cases this;subst q;rw [k6] at k4;exact absurd k4 BT;have:=T6 q hi (e4.trans e6.symm);rw [hd i hi] at this;cases this
def RA(P:AJ)(f:FuncId)(args:Array Aj)(u u':FrameMode)(w:Ae)(R:Aj→Ae→Prop):Prop:=CallsDIn Fence.wide (0-1) P f args u w fun e u2 w'=>u2=u'∧∃ v,e = .returned v∧R v w'
section
variable {P:AJ} {n:Nat} {fn:Func} {R:Aj→Ae→Prop} {Rp:List Bf→Ae→Prop} {σ:List Ce} {w:Ae} {ds:List Deferred}
theorem rO{f:Nat}{cs args:Array Aj}{R':Aj→Ae→Prop}(aa:CD P f=true)(hC:RA P f (args++cs) .returning .returning w R')(h:∀ v w',R' v w'→∀ a,Cl n σ a→NH P fn R Rp ds a w'):∀ a,Cl n σ a→NH P fn R Rp (Nf f cs args::ds) a w:=fun a ha=>by
 refine ⟨by simp,.inr ⟨(fun h=>by cases h),.func f,cs,f,args++cs,rfl,Sq aa _ _,fun _ _=>Cc,?_⟩⟩;refine ⟨hC.1,fun c ab hu hr=>?_⟩;obtain ⟨e,u',w',fr,⟨rfl,v,rfl,hv⟩,h2⟩:=hC.2 c ab hu hr;refine ⟨.returned v,_,w',fr,?_,h2⟩;show LeavesInM _ _ _ _ _ _ _ (settle .returning) _;exact h v w' hv a ha
theorem Aag{f:Nat}{cs args:Array Aj}{ch:List Bf}{u':FrameMode}{R':Aj→Ae→Prop}(aa:CD P f=true)(hs:settle u' = .returning)(hC:RA P f (args++cs) (.panicking ch) u' w R')(h:∀ v w',R' v w'→∀ a,Cl n σ a→NH P fn R Rp ds a w'):∀ a,Cl n σ a→Ny P fn R Rp ch (Nf f cs args::ds) a w:=fun a ha=>by
 refine ⟨by simp,.inr ⟨(fun h=>by cases h),.func f,cs,f,args++cs,rfl,Sq aa _ _,fun _ _=>Cc,?_⟩⟩;refine ⟨hC.1,fun c ab hu hr=>?_⟩;obtain ⟨e,u2,w',fr,⟨rfl,v,rfl,hv⟩,h2⟩:=hC.2 c ab hu hr;refine ⟨.returned v,_,w',fr,?_,h2⟩;show LeavesInM _ _ _ _ _ _ _ (settle u2) _;rw [hs];exact h v w' hv a ha
theorem Adu{F:Fence}{k i:Nat}{ops:Array Oper}{Q:Exit→Act→List Frame→Ae→Prop}{l:List Nat}{a:Act}{cs:List Frame}{o:Oper}{v:Aj}{w':Ae}(ho:ops[i]? = some o)(hg:o.guard=none)(hr:(execOp a.eval o).run P w = .ok (.value v) w')(aa:∀ f,o.about P w a.eval=some f→F.fn f)
 (h:wpOpsSIn F k P ops Q l (a.put o.dst v) cs w'):wpOpsSIn F k P ops Q (i::l) a cs w:=by
 unfold wpOpsSIn;simp only [ho];refine ⟨aa,?_⟩;rw [CO (by unfold Region.wanted;rw [hg])];simp only [hr];exact h
theorem vH{F:Fence}{k i:Nat}{ops:Array Oper}{Q:Exit→Act→List Frame→Ae→Prop}{l:List Nat}{a:Act}{cs:List Frame}{o:Oper}{w':Ae}(ho:ops[i]? = some o)(hg:o.guard=none)(hr:(execOp a.eval o).run P w = .ok .recover w')(aa:∀ f,o.about P w a.eval=some f→F.fn f)
  (h:match recoverD cs with
   | some (v,cs')=>wpOpsSIn F k P ops Q l (a.put o.dst v) cs' w'
   | none=>wpOpsSIn F k P ops Q l (a.put o.dst .nilIface) cs w'):wpOpsSIn F k P ops Q (i::l) a cs w:=by
 unfold wpOpsSIn
 simp only [ho]
 refine ⟨aa,?_⟩
 rw [CO (by unfold Region.wanted;rw [hg])]
 simp only [hr]
 exact h
theorem cS{f id d0 d1:Nat}{fn:Func}{t0 t1:AD}{p0 p1:String}{e0 AU:Array Edge}{rest:Code}{args:List Aj}{x:Aj}{u u':FrameMode}{R:Aj→Ae→Prop}{m:Nat}
 (hf:P.funcs[f]? = some fn) (hb:fn.body=some (.seq (.region id #[⟨some d0,.call { callee:=.builtin .recover,args:=#[],argTypes:=#[] },t0,p0,e0,none⟩,⟨some d1,.assign (.tmp d0),t1,p1,AU,none⟩] false) rest)) (hm:args.length+(fn.ntmps-args.length)=m)
 (σ0:List Ce) (hs:H0 σ0 (JJ 0 args)) (h0:Nat.blt d0 m=true) (h1:Nat.blt d1 m=true)
 (hrec:∀ (c₀:Frame) (cs:List Frame),c₀.mode=u→recoverD (c₀::cs)=some (x,{ c₀ with mode:=u' }::cs)∨(recoverD (c₀::cs)=none∧x = .nilIface∧u'=u))
 (hh:Se P m rest (fun a w=>bodyPost P fn (fun e w'=>∃ v,e = .returned v∧R v w') .normal a w) [] (fun a w=>bodyPost P fn (fun e w'=>∃ v,e = .returned v∧R v w') .ret a w) ((d1,True,x)::(d0,True,x) :: σ0) w):RA P f args.toArray u u' w R:=by
 refine callsDIn_of_wpSIn hf hb Cc fun c₀ cs hu=>?_
 have hk:Cl m σ0 { tmps:=args.toArray++Array.replicate (fn.ntmps-args.toArray.size) undef,defers:=[] }:=by
  refine Cl.sub (σ:=JJ 0 args) ?_ hs;refine ⟨by simp [← hm],rfl,fun t c' v hl=>?_⟩;obtain ⟨rfl,_,h3⟩:=PH args 0 t c' v hl;refine ⟨fun _=>?_,fun hn=>absurd Cc hn⟩;rw [Nat.sub_zero] at h3;have ad:t<args.length:=(List.getElem?_eq_some_iff.1 h3).1;simp [Array.getElem?_append,ad,h3];simpa [ad] using h3
 generalize ({ tmps:=args.toArray++Array.replicate (fn.ntmps-args.toArray.size) undef,defers:=[] }:Act)=a0 at hk ⊢;have ac:Cl m ((d0,True,x) :: σ0) (a0.put (some d0) x):=hk.put h0 (fun _=>rfl) fun h=>absurd Cc h;have ae:Cl m ((d1,True,x)::(d0,True,x) :: σ0) ((a0.put (some d0) x).put (some d1) x):=ac.put h1 (fun _=>rfl) fun h=>absurd Cc h
 have ag:∀ aa,aa = { c₀ with mode:=u' }::cs→rest.wpSIn Fence.wide (0-1) P (bodyPostS P fn c₀ cs fun e u2 w'=>u2=u'∧∃ v,e = .returned v∧R v w') ((a0.put (some d0) x).put (some d1) x) aa w:=fun aa e=>by
  subst e;refine wpSIn_of_wpIn J (wpIn_mono (F:=Fence.wide) (wpIn_wide.2 (hh _ ae)) fun e a w q=>?_)
  cases e with
  | normal =>
   obtain ⟨hd,v,hr,v',e,hv⟩:=q;exact ⟨hd,_,rfl,v,hr,rfl,v',e,hv⟩
  | ret =>
   obtain ⟨hd,v,hr,v',e,hv⟩:=q;exact ⟨hd,_,rfl,v,hr,rfl,v',e,hv⟩
  | panic ch=>exact q.2.elim
  | _=>exact q.elim
 refine wpSIn_seq (wpSIn_region ?_);have ex:(a0.put (some d0) x).eval (.tmp d0)=x:=Ab (σ:=(d0,True,x) :: σ0) (t:=d0) (by unfold Ex;rw [Nat.beq_refl];rfl) _ ac Cc
 have ab:∀ aa,aa = { c₀ with mode:=u' }::cs→wpOpsSIn Fence.wide (0-1) P #[⟨some d0,.call { callee:=.builtin .recover,args:=#[],argTypes:=#[] },t0,p0,e0,none⟩,⟨some d1,.assign (.tmp d0),t1,p1,AU,none⟩] (Exit.thenS (rest.wpSIn Fence.wide (0-1) P (bodyPostS P fn c₀ cs fun e u2 w'=>u2=u'∧∃ v,e = .returned v∧R v w')) (bodyPostS P fn c₀ cs fun e u2 w'=>u2=u'∧∃ v,e = .returned v∧R v w')) [1] (a0.put (some d0) x) aa w:=fun aa e=>by
  exact Adu (i:=1) rfl rfl (by simp [execOp,ex]) (fun _ _=>Cc) (ag aa e)
 show wpOpsSIn Fence.wide (0-1) P _ _ [0,1] a0 (c₀::cs) w;refine vH (i:=0) (w':=w) J J (by simp [execOp,resolve,invoke,builtin]) (fun _ _=>Cc) ?_;rcases hrec c₀ cs hu with hq|⟨hq,hx,af⟩;rw [hq];exact ab _ rfl;rw [hq];subst hx;exact ab _ (by rw [af,← hu])
end
def M5(n:Nat)(ts:List Nat)(a a':Act):Prop:=a.tmps.size=a'.tmps.size∧a'.defers=[]∧∀ t∈ts,a'.tmps[t]? = a.tmps[t]?
theorem yV{n:Nat}{ts:List Nat}{a a':Act}{d:Option Tmp}{v:Aj}(h:M5 n ts a a')(hd:∀ k,d=some k→k∉ts):M5 n ts (a.put d v) a':=by
 cases d with
 | none=>exact h
 | some k =>
  refine ⟨by simp [Act.put,h.1],h.2.1,fun t ht=>?_⟩;have hk:k≠t:=fun e=>hd k rfl (by rw [e];exact ht);rw [h.2.2 t ht];simp only [Act.put];rw [Array.getElem?_setIfInBounds_ne hk]
theorem vD{P:AJ}{n:Nat}{ds:List Deferred}{N T:Fw}{X:List (Nat×Fw)}{Z:List Bf→Fw}{σ:List Ce}{w:Ae}{id:Nat}{l:List Oper}(ts:List Nat)(row:H8)(cl:List Nat)(ms:List Nat)(hm:P.follows .mixedOrders=true)(ac:Ox l cl ms=true)(L:List Nat)(hL:List.range l.length=L)
 (ab:(l.all fun o=>match o.dst with|some d=>ts.all fun t=>!Du d t|none=>true)=true)
 (h:Hu P (fun ch a w=>∀ a',M5 n ts a a'→Z ch ds a' w) l cl ms row n (N ds) l.length L σ w.drew):Hw P none n ds (.region id l.toArray true) N X T Z σ w:=fun a ha=>by
 have h1:=h a ha;subst hL;have h2:=Gx.wd (Z:=fun ch ds a w=>∀ a',M5 n ts a a'→Z ch ds a' w) (N:=N) ds _ _ a w.drew ha.2.1 h1;have h3:Gx P (fun ch=>JX (fun ds a w=>∀ a',M5 n ts a a'→Z ch ds a' w)) l.toArray (Bw cl) (Iu ms) row (JX N) l.toArray.size (List.range l.toArray.size) (wd ds a) w.drew:=by simpa using h2
 refine VU (Z:=fun ch=>JX (fun ds a w=>∀ a',M5 n ts a a'→Z ch ds a' w)) (fun ch a d v w ho hz=>?_) (VJ ac) (fun ch a w h=>h _ ⟨rfl,rfl,fun _ _=>rfl⟩) hm h3;obtain ⟨i,o,hi,rfl⟩:=ho;have hz:∀ a',M5 n ts (wd [] (a.put o.dst v)) a'→Z ch (a.put o.dst v).defers a' w:=hz;rw [Nr,← OW] at hz;intro a' ad;refine hz a' (yV ad fun k hk hm=>?_)
 have aa:o∈l:=by
  rw [List.getElem?_toArray] at hi;exact GN hi
 have:=CC.1 ab o aa;rw [hk] at this;have:=CC.1 this k hm;simp at this
theorem fF{P:AJ}{n:Nat}{ds:List Deferred}{N T:Fw}{X:List (Nat×Fw)}{Z:List Bf→Fw}{σ:List Ce}{w:Ae}{c:Code}{α:Type}(I:α→Ae→Prop)(E:Ae→Prop)(σc:List Ce)(σf:α→List Ce)(μ:α→Nat)(x0:α)(h0:I x0 w)(hE:E w)(hs:H0 (σf x0 ++ σc) σ)
 (round:∀ x w,I x w→E w→Hw P none n ds c (fun ds' a' w'=>ds'=ds∧∃ y,Cl n (σf y ++ σc) a'∧I y w'∧E w'∧μ y < μ x) X T Z (σf x ++ σc) w):Hw P none n ds (.loop c) N X T Z σ w:=by
 refine qP (fun x w=>I x w∧E w) σc σf μ x0 ⟨h0,hE⟩ hs fun x w h=>fun a ha=>wpIn_mono (round x w h.1 h.2 a ha) (fun e a w q=>?_)
 cases e with
 | normal=>obtain ⟨q1,y,q2,q3,q4,q5⟩:=q;exact ⟨q1,y,q2,⟨q3,q4⟩,q5⟩
 | _=>exact q
theorem M5.kn{n:Nat}{ts:List Nat}{a a':Act}{σ τ:List Ce}(h:M5 n ts a a')(ha:Cl n σ a)(hs:H0 τ σ)(ht:∀ t c v,Ex τ t=some (c,v)→t∈ts):Cl n τ a' :=
 ⟨h.1.symm.trans ha.1,h.2.1,fun t c v hl=>by rw [h.2.2 t (ht t c v hl)];exact ha.2.2 t c v (hs t c v hl)⟩
theorem qL{P:AJ}{n:Nat}{σ:List Ce}{c:Prop}{wb:Ae}{ty t xt:AD}{x:Bl}{u:Aj}(ht:QR P t=true)(h:BI n σ c x (.iface t u)):Db P n σ c wb (.typeAssert x xt t true) ty (.tuple #[u,.bool true]):=.mk fun d pos after gd a ha hc w1 _=>by
 have hx:=h a ha hc;unfold QR at ht;split at ht;cases ht;rename_i τ hτ hu
 have r:(Instr.typeAssert (.iface t u) xt t true).run P w1 = .ok (.tuple #[u,.bool true]) w1:=by
  cases τ <;> first|(exact absurd rfl (hτ _))|simp [Instr.typeAssert,run_underlying hu]
 simp [execOp,hx,r];cases ht
theorem mJ:QR An 48=true:=Ag
theorem oJ(c₀:Frame)(cs:List Frame)(h:c₀.mode = .returning):recoverD (c₀::cs)=some (.nilIface,{ c₀ with mode:=.returning }::cs)∨(recoverD (c₀::cs)=none∧Value.nilIface = .nilIface∧FrameMode.returning = .returning):=by
 refine .inr ⟨?_,rfl,rfl⟩;simp only [recoverD,h]
theorem pG(v:Aj)(c₀:Frame)(cs:List Frame)(h:c₀.mode = .panicking [⟨v,false,false⟩]):recoverD (c₀::cs)=some (v,{ c₀ with mode:=.panicking [⟨v,true,false⟩] }::cs)∨(recoverD (c₀::cs)=none∧v = .nilIface∧FrameMode.panicking [⟨v,true,false⟩] = .panicking [⟨v,false,false⟩]):=by
 refine .inl ?_;simp only [recoverD,h]
theorem Adm{c2 c3 c4:Aj}{w:Ae}:RA An 28 #[c2,c3,c4] .returning .returning w fun r w'=>r = .tuple #[]∧G w w':=by
 have g:=G.refl w;refine cS (m:=22) (x:=.nilIface) Tryz.func28 J J [(0,True,_),(1,True,_),(2,True,_)] Bp J J (oJ) ?_;refine Am (Au (Ap rfl (AR rfl (fun _=>VS kJ (Ab rfl) (by first|exact .inl rfl|exact .inr ⟨_,_,rfl⟩)) (Ai (Al (Cv rfl (fun h1=>?_) (fun h1=>?_)))))))
 ·exact absurd h1 BT
  done
 refine CJ (Hh J ?_);exact ⟨rfl,g⟩
theorem Aam{a e:Int}{bn bi be:Nat}{w:Ae}{u2:Nd}{s2 x y:Aj}(Bn:Ax w bn 26 (De u2 s2))(Bi:Ax w bi 3 [x])(Be:Ax w be 30 [y]) :
 RA An 28 #[.pointer (some ⟨bn,0,none⟩),.pointer (some ⟨bi,0,none⟩),.pointer (some ⟨be,0,none⟩)] (.panicking [JZ a e]) (.panicking [⟨(JZ a e).v,true,false⟩]) w fun r w'=>r = .tuple #[]∧Ax w' bn 26 (De Fr (.slice none 0 0))∧Ax w' bi 3 [.int .i64 a]∧Ax w' be 30 [.int .i64 e]∧IX [bn,bi,be] w w':=by
 have af:=Bn.lt;have ae:=Bi.lt;have ah:=Be.lt;have g:=G.refl w;refine cS (m:=22) (x:=(JZ a e).v) Tryz.func28 J J [(0,True,_),(1,True,_),(2,True,_)] Bp J J (pG _) ?_;refine Am (Au (Ap rfl (AR rfl (fun _=>VS kJ (Ab rfl) (by first|exact .inl rfl|exact .inr ⟨_,_,rfl⟩)) (Ai (Al (Cv rfl (fun h1=>?_) (fun h1=>?_)))))))
 ·(try simp only [BH] at h1)
  refine Am ?_;refine Kb [3,0,3,3,3,1,2,3] ?_;refine Ad ?_;refine FG J (qL mJ (Ab J)) ?_;refine Pu fun _ _ ga _ g E=>?_;have Bn:=Ar Bn;have Bi:=Ar Bi;have Be:=Ar Be;refine AS fun _ ga _ g E=>?_;have Bn:=Bn.C ga (by intro e;injection e with e;omega);have Bi:=Bi.C ga (by intro e;injection e with e;omega);have Be:=Be.C ga (by intro e;injection e with e;omega);refine Aw (fun h2=>?_) fun h2=>?_
  ·exact absurd h2 BT
   done
  refine Ad ?_;refine Dx (mW [bn,bi,be]) [3,3,0,3,0,1,1,2] [0,0,2,0,8,1,39,127] CG Ag [0,1,2,3,4,5,6,7] J ?_;refine FY fun g E=>?_;have Bn:=Bn.A (G.drew _);have Bi:=Bi.A (G.drew _);have Be:=Be.A (G.drew _);have gB:=IX.Y (X:=[bn,bi,be]) g;refine As 0 J J (fun _=>Jj [_,_,_,_,_,_,_,_,_] Cp J MV (IR) J) (As 1 J J (fun _=>AB gU (Ab J)) (Bb 2 J J (fun w1 hx=>AZ Cb (Ab J) (fun _=>(E.J.bs hx (by intro hm;simp only [Bu,DQ,or_false] at hm;omega)).y J)) (As 3 J J (fun _=>AB iG (Ab J)) (Bb 4 J J (fun w1 hx=>AZ NI (Ab J) (fun _=>(E.J.bs hx (by intro hm;simp only [Bu,DQ,or_false] at hm;omega)).y J)) (AW 5 J J ?_)))));refine Bt (L':=[6,7]) [3,3,0,3,0,2,2,2] J J J ?_;refine Df J Fm (Ab J) (Ab J) J J Bn J J ?_;intro wA aa ad BA;have gB:=gB.trans (IX.ag aa BR);replace E:=E.ae aa Bn rfl;have Bi:=Bi.C aa (Fi (Ln Bi Bn rfl));have Be:=Be.C aa (Fi (Ln Be Bn rfl));have Bn:=BA;refine Bs (IX.ag aa BR) ?_;refine AW 6 J J ?_;refine Bt (L':=[7]) [3,3,0,3,0,2,2,2] J J J ?_;refine Df J I2 (Ab J) (Ab J) J J Bi J J ?_;intro wB ab ai BB;have gB:=gB.trans (IX.ag ab BR);replace E:=E.ae ab Bi rfl;have Bn:=Bn.C ab (Fi (Ln Bn Bi rfl));have Be:=Be.C ab (Fi (Ln Be Bi rfl));have Bi:=BB;refine Bs (IX.ag ab BR) ?_;refine AW 7 J J ?_;refine DN (L':=[]) [3,3,0,3,0,2,2,2] J J J J ?_;refine Df J SL (Ab J) (Ab J) J J Be J J ?_;intro wC ac ag BC;have gB:=gB.trans (IX.ag ac BR);replace E:=E.ae ac Be rfl;have Bn:=Bn.C ac (Fi (Ln Bn Be rfl));have Bi:=Bi.C ac (Fi (Ln Bi Be rfl))
  have Be:=BC;refine DL ?_;refine Dt [] ?_;refine FW (Hh J ?_);exact ⟨rfl,Bn,Bi,Be,gB⟩
 exact E6 (show true=false from h1);done
section
variable {P:AJ} {Z:List Bf→Act→Ae→Prop} {ops:List Oper} {cl:List Nat} {lv:List Bool} {W0:Ae} {n:Nat} {K:Act→Ae→Prop} {k:Nat} {rest:List Oper} {σ:List Ce} {w:Ae} {d:Nat} {ty:AD} {pos:String} {after:Array Edge}
theorem Ya{t q q':Nat}{x y:Bl}{s zv:Aj}{news:List Aj}{b' o' lo:Nat}{X:List Nat}{ks ls:List Nd}(hb:(Du (Bw cl k) 2&&Nat.blt d n)=true)(ht:Gf P t=some (26,9,104))(ag:Gh P 26=some zv)
 (ah:zv.cells.size=9) (hx:BI n σ True x s) (hO:Dp X lo w ks s) (hy:BI n σ True y (.slice (some ⟨b',o',none⟩) q q')) (hq:ls.length=q) (hn:CQ w b' o' news) (hK:FC w (fun b=>(J3 lo X b∧G8 w b)∧some b≠s.ownBlock) ls news)
 (aj:ks.length+ls.length≤10000000) (ad:lo≤w.heap.size) (hD:J3 lo X w.heap.size)
 (h:∀ a' c' w',Dp X lo w' (ks++ls) (.slice a' (ks++ls).length c')→w.grownBy w' s.ownBlock→((CY a' (ks++ls).length c').ownBlock=s.ownBlock∨(CY a' (ks++ls).length c').ownBlock=some w.heap.size)→BK P Z ops cl lv W0 n K (k+1) rest ((d,True,.slice a' (ks++ls).length c') :: σ) w') :
 BK P Z ops cl lv W0 n K k (⟨some d,.call { callee:=.builtin .append,args:=#[x,y],argTypes:=#[t,t] },ty,pos,after,none⟩::rest) σ w:=by
 obtain ⟨xs,h1,h2,h3⟩:=id hO;subst hq;have ae:=SV hK;refine Ja hb ht ag ah BT hx h1 hy (RF hK) hn ae (by simp only [maxLen];omega) O ad fun a' c' w' ho hg ab=>?_;have aa:(ks++ls).length=ks.length+ls.length:=by simp
 have ai:∀ b,(CY a' (ks.length+ls.length) c').ownBlock=some b→G8 w' b:=fun b hb=>by
  rcases ho.2 with ⟨q1,_⟩|⟨g,ak,al,q1,_,q3,_⟩;rw [q1] at hb;cases hb;rw [q1] at hb;have:g=b:=by injection hb
  subst this;exact ⟨_,_,q3⟩
 have af:Dp X lo w' (ks++ls) (.slice a' (ks++ls).length c'):=by
  refine ⟨xs++news,by rw [aa];exact ho,?_,?_⟩;rw [aa];refine MU (fun b hb ac=>⟨⟨hb.1.1,hb.1.2.ac (hg.block b ac hb.2)⟩,?_⟩) (fun b hb ac=>hg.block b ac hb.2) _ _ (Rn h2 hK);rcases ab with he|he <;> rw [he]
  exact hb.2;intro e;injection e with e;omega;rw [aa];intro b hb;refine ⟨?_,ai b hb⟩;rcases ab with he|he <;> rw [he] at hb
  exact (h3 b hb).1;injection hb with hb;exact hb▸hD
 have:=h a' c' w' af hg (by rw [aa];exact ab);rwa [Cj] at this
end
theorem iU{w:Ae}{D:Nat→Prop}{u:Nd}:∀ {ks:List Nd} {xs:List Aj},FC w D (ks++[u]) xs→FC w D ks (xs.take (ks.length*9))
 | [],xs,h=>by show FC w D [] (xs.take 0);rw [List.take_zero];exact Tc
 | t::ts,xs,h=>by
  obtain ⟨v,r,rfl,h1,h⟩:=h;have k:=iU h;refine ⟨v,r.take (ts.length*9),?_,h1,k⟩;have e:(De t v).length=9:=W9 _ _;rw [List.take_append,e,Eo (by rw [e,List.length_cons];omega),show (t::ts).length*9-9=ts.length*9 by rw [List.length_cons];omega]
theorem Dp.av{X:List Nat}{lo:Nat}{w:Ae}{ks:List Nd}{u:Nd}{s:Aj}(h:Dp X lo w (ks++[u]) s):∃ g c l,s = .slice (some ⟨g,0,none⟩) (ks++[u]).length c∧Ax w g 26 l∧ks.length*9+9≤l.length∧g∉X∧lo≤g∧
 ∀ {w':Ae} {t:Nd} {v:Aj},w.grownBy w' (some g)→Ax w' g 26 (l.take (ks.length*9)++De t v++l.drop (ks.length*9+(De t v).length))→FC w (fun k=>(J3 lo X k∧G8 w k)∧some k≠s.ownBlock) [t] (De t v)→Dp X lo w' (ks++[t]) (.slice (some ⟨g,0,none⟩) (ks++[t]).length c):=by
 obtain ⟨xs,ho,hX,hD⟩:=h;have ag:(ks++[u]).length=ks.length+1:=by simp
 obtain ⟨g,c,l,rfl,al,hB,ac,ad,af,ak⟩:=Q9 ho O;have hg:=hD g rfl;rw [ag] at af ac;have ae:ks.length*9+9≤l.length:=by rw [ad];have:=Nat.mul_le_mul_right 9 ac;omega
 refine ⟨g,c,l,rfl,hB,ae,hg.1.2,hg.1.1,fun {w' t v} hw ah hK=>?_⟩;have aj:(ks++[t]).length=ks.length+1:=by simp
 have e9:(De t v).length=9:=W9 _ _
 have et:(l.take (ks.length*9)++De t v++l.drop (ks.length*9+(De t v).length)).take ((ks.length+1)*9)=l.take (ks.length*9)++De t v:=by
  rw [List.take_append_of_le_length (by rw [Cj,FI,e9];omega),Eo (by rw [Cj,FI,e9];omega)]
 have el:(l.take (ks.length*9)++De t v++l.drop (ks.length*9+(De t v).length)).length=c*9:=by
  rw [Cj,Cj,FI,List.length_drop,e9];omega
 have ab:=ak w' _ ah el;rw [ag,et] at ab;have hk:=iU hX
 have ex:xs.take (ks.length*9)=l.take (ks.length*9):=by
  rw [← af,List.take_take,show min (ks.length*9) ((ks.length+1)*9)=ks.length*9 by omega]
 rw [ex] at hk;have ai:G8 w' g:=DK ah;refine ⟨l.take (ks.length*9)++De t v,by rw [aj];exact ab,?_,fun k hk=>by injection hk with hk;subst hk;exact ⟨hg.1,ai⟩⟩;refine MU (fun k hk aa=>⟨⟨hk.1.1,hk.1.2.ac (hw.block k aa fun e=>hk.2 e)⟩,hk.2⟩) (fun k hk aa=>hw.block k aa fun e=>hk.2 e) _ _ (Rn hk hK)
theorem EP.a8{lo l0:Nat}{X Y:List Nat}{w w':Ae}{ks ac:List Nd}{v s s':Aj}(h:EP lo X w ks v)(hO:Dp Y l0 w ac s)(hs:∀ k,s.ownBlock=some k→k∈X∨k<lo)(hg:w.grownBy w' s.ownBlock)(ab:s'.ownBlock=s.ownBlock∨s'.ownBlock=some w.heap.size) :
 EP lo (w.heap.size::X) w' ks v∧∀ k,s'.ownBlock=some k→k∈w.heap.size::X∨k<lo:=by
 refine ⟨HQ h (fun k hk aa=>⟨⟨hk.1.1,fun hm=>?_⟩,hk.2.ac (hg.block k aa fun e=>?_)⟩) fun k hk aa=>hg.block k aa fun e=>?_,fun k hk=>?_⟩;rcases Bu.1 hm with q|q;omega;exact hk.1.2 q;rcases hs k e.symm with q|q;exact hk.1.2 q;have:=hk.1.1;omega;rcases hs k e.symm with q|q;exact hk.1.2 q;have:=hk.1.1;omega;rcases ab with q|q;rw [q] at hk;exact (hs k hk).imp (CR _) id;rw [hk] at q;injection q with q;subst q;exact .inl List.mem_cons_self
section
variable {F n:Nd} {S:Ak}
theorem Aem(F n:Nd)(S:Ak)(k:Nat):Bg S (H1 F n S k):=by
 have h:=WA F n S 0 k;rw [Cq] at h;exact h
theorem nG(F n:Nd)(S:Ak):Bg S (GB F n S).2:=by
 unfold GB;refine Bg.bo (Aem F n S _) (Bg.bo (TZ _ (Bg.refl _)) (Bg.bo ?_ (Bg.refl _)));have h:=Xw (F:=F) (S:=C9 S) (Aa n 0) 0 (Aa n 0).j.length;rw [Cq] at h;have h0:Bg S (Dc F (Aa n 0) (C9 S) 0).2:=Bg.refl S;exact (h0.trans h).trans iR
theorem VT(F:Nd)(S:Ak)(i:Nat):∀ k,Bg (Es F S i).2 (Es F S (i+k)).2
 | 0=>Bg.refl _
 | k+1=>(VT F S i k).trans (nG F _ _)
theorem jT(F:Nd)(S:Ak):Bg S (Mo F S):=by
 unfold Mo;exact Bg.be ((Bg.refl S).am _ _) (Bg.be ((Bg.refl S).am _ _) (Bg.refl S))
theorem jP(F:Nd)(S:Ak):∀ i,(Es F S i).1.length=i
 | 0=>rfl
 | i+1=>by
  show ((Es F S i).1++[_]).length=_;rw [Cj,jP F S i];rfl
end
theorem Sr{F:Nd}(h:∀ j,j<F.j.length→Ge F j=false):F7 F=Mo F (Es F Ee F.j.length).2∧LC F=AF F (Es F Ee F.j.length).1 Az:=by
 unfold F7 LC;rw [WK h];exact ⟨rfl,rfl⟩
theorem Zo{F:Nd}(h:∀ j,j<F.j.length→Ge F j=false){i:Nat}(hi:i<F.j.length):Bg (GB F (Aa F i) (Es F Ee i).2).2 (F7 F):=by
 rw [(Sr h).1];have k:=VT F Ee (i+1) (F.j.length-(i+1));rw [show i+1+(F.j.length-(i+1))=F.j.length by omega] at k;have e:(Es F Ee (i+1)).2=(GB F (Aa F i) (Es F Ee i).2).2:=rfl;rw [e] at k;exact k.trans (jT F _)
theorem Agt(F:Nd):Bg (FV F Ee F.j.length) (F7 F):=by
 unfold F7;have k:=VT F (FV F Ee F.j.length) 0 F.j.length;rw [Cq] at k;have h0:Bg (FV F Ee F.j.length) (Es F (FV F Ee F.j.length) 0).2:=Bg.refl _;exact (h0.trans k).trans (jT F _)
theorem bG{F:Nd}(hv:Hf F=true)(h:(F7 F).ee≠0):D8 F=(Fr,(F7 F).ea,(F7 F).ee):=by
 unfold D8;rw [hv,Aq h];rfl
theorem YX{F:Nd}(hv:Hf F=true)(h:(F7 F).ee=0):D8 F=(LC F,0,0):=by
 unfold D8;rw [hv,BU h];rfl
theorem WC{F:Nd}(hv:Hf F=false):D8 F=(Fr,0,1):=by
 unfold D8;rw [hv];rfl
end Go.Rk
