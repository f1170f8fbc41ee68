/- Texts. Conditions: each its own. -/
import Derived.Test.YtmpfjifhkmdbaaaGreatDoorJ04
import Derived.Test.YtmpfjifhkmdbaaaGreatDoorJ02
import Derived.Test.YtmpfjifhkmdbaaaGreatDoorJ01
import Derived.ChangeSame
import Derived.OpenShut
import Derived.Below
import Derived.Test.YtmpfjifhkmdbaaaGreatDoorCards
import Derived.Test.YtmpfjifhkmdbaaaGreatDoorTie
import Derived.WalkKit
import Derived.ProofKit
import Derived.Deep.DeepHandedRow
import Derived.Deep.DeepWitnessRowRef
import Derived.Lib.LaidTab
import Derived.Stop.LaidErr
import Derived.ShutString
import Derived.ChangeMaps5
import Derived.Test.YtmpfjifhkmdbaaaGreatDoorRows
import Derived.Deep.Slices
import Derived.Carry
import Derived.Test.YtmpfjifhkmdbaaaGreatDoorJ03
set_option linter.unusedSimpArgs false
set_option linter.unusedVariables false
set_option maxHeartbeats 16000000
set_option maxRecDepth 100000
open Array renaming getElem?_toList→CR,getElem?_eq_some_iff→EY
open Bool renaming and_eq_true→CW,noConfusion→Ha,false_ne_true→Ju
open Go renaming World→Ae,TypeId→AD,PanicEntry→Bf,Program→Bl,Value→AJ
open Go.World renaming block_lt_of_cell?→Aj,cell?_of_block→CY
open Int renaming toNat_of_nonneg→NP
open List renaming forall_mem_cons→Bu,length_map→Cq,mem_cons→Dr,getElem?_eq_getElem→Ei,range→Ez,length_append→E6,drop_zero→FI,getElem?_eq_none→F3,length_take→Gc,forall_mem_nil→Gq,not_mem_nil→Gm,getElem_mem→GN,take_length→GZ,getElem?_take→Hp,getElem?_append_left→Ht,getElem?_append_right→Hv,map_cons→Ip,map_nil→IH,map_append→Iz,drop_eq_nil_of_le→IM,take_succ_eq_append_getElem→Jz,flatMap_append→Kh,mem_cons_of_mem→Lo,getElem_of_mem→Kp,take_succ_cons→Kn,drop_succ_cons→Kv,getElem?_cons_zero→L3,getElem?_cons_succ→LX,flatten_append→LN,drop_eq_getElem_cons→NR,mem_of_find?_eq_some→P1
open Nat renaming le_trans→Ao,le_refl→AA,beq→A2,zero_add→Cj,zero_le→CC,eq_of_beq_eq_true→Du,ne_of_lt→DQ,lt_of_lt_of_eq→D4,lt_of_lt_of_le→Eo,mul_one→E0,le_of_eq→E8,eq_zero_or_pos→LR
open Option renaming map_eq_some_iff→KJ
open Decidable renaming decide→Ac
namespace Go.Proofs
end Go.Proofs
namespace Go.Rk
open Go.Proofs
open Go Go.RowKit
set_option maxHeartbeats 2000000
theorem pA(l:List Dz):∀ u∈l.flatMap JU,u.oneCell'=true:=fun u hu=>by
 obtain ⟨v,_,hv⟩:=List.mem_flatMap.1 hu;exact List.all_eq_true.1 (show (JU v).all (·.oneCell')=true from rfl) u hv
theorem sJ(l:List Nat):∀ u∈l.map (fun (k:Nat)=>Value.int .i64 (k:Int)),u.oneCell'=true:=fun u hu=>by
 obtain ⟨k,_,rfl⟩:=List.mem_map.1 hu;rfl
theorem qU{F t:Nd}(H:Li F)(HM:t.k=28→Nq F t):P9 F t:=by
 intro n0 b S w v N h a4 hb bb;have er:(Af F t).rcv S=G4 F t (Av F t) S:=by rw [GL];rfl
 have em:(Af F t).N S=Er F t (Av F t) S:=by rw [GL];rfl
 rw [er];obtain ⟨p,c,rfl,_⟩:=id a4;have c4:=h.lt;have ct:=JY t;have c9:=hb.vl;have c1:=hb.nl;obtain ⟨fv,sv,sn,h⟩:=h;obtain ⟨pv,cv,rfl,cj,dd⟩:=UP h.ov;obtain ⟨an,cn,rfl,bp⟩:=IJ h.on;obtain ⟨pf,cf,rfl,_⟩:=id h.kF
 have bj:0<S.F.length→∃ b o,pv=some ⟨b,o,none⟩∧CQ w b o (S.F.flatMap JU):=fun h0=>by
  obtain ⟨g,c',hv,_,hR,_⟩:=LU h.ov h0;injection hv with AU _ _;exact ⟨g,0,AU,hR⟩
 have br:0<S.next.length→∃ b o,an=some ⟨b,o,none⟩∧CQ w b o (S.next.map fun (k:Nat)=>Value.int .i64 (k:Int)):=fun h0=>by
  obtain ⟨g,c',hv,_,hR,_⟩:=LU h.on h0;injection hv with AU _ _;exact ⟨g,0,AU,hR⟩
 have g:=G.refl w;refine JB (m:=72) Tryz.func172 J J [(0,True,_),(1,True,_)] Bp ?_;refine Ks fun K1 bm=>?_;refine Kb [1,1,3] ?_;refine Jr J (Ab J) J ?_;intro b3 w3 N3;have l3:=N3.ge g;have g:=g.trans N3.g;have B3:=N3.H;refine En J Cp J ?_;intro b4 w4 N4;have bs:=N4.ne B3;have l4:=N4.ge g;have g:=g.trans N4.g;replace B3:=B3.A (N4.g);have B4:=N4.H;refine AR J (fun _=>Fj Bd) ?_;refine EV [(0,_,_),(3,_,_),(4,_,_),(5,_,_)] Bp ?_;refine Ai (bm _ _ ?_);refine Ks fun K2 be=>?_;refine Ks fun K3 bg=>?_;refine Kb [3,0,3] ?_;refine AR J (fun _=>AB FP (Ab J)) ?_;refine FG J (AZ Cb (Ab J) (fun _=>B3.y J)) ?_;refine AR J (fun _=>Gk (Ab J) Bd) ?_;refine EV [(0,_,_),(3,_,_),(4,_,_),(5,_,_),(13,_,_)] Bp ?_;refine Ai (bg _ _ ?_);refine Qz (Ab J) (fun h1=>?_) (fun h1=>?_);have h1:t.k=27:=AH h1;refine Ks fun K4 bf=>?_;refine Kb [3,0,2,3,3,3,1,2,3] ?_;refine AR J (Bm J) ?_;refine FG J (A8 A3 (Ab J) J (fun _=>B3.row)) ?_;refine EB J (BF rS BX (CM (Ab J) (CM (Ab J) (DC))) J) (WM H t _ _ (h.A g).ah hb O) ?_;rintro c0 c7 ⟨rfl,av⟩;refine Ev av fun g=>?_;replace B3:=B3.A (av);replace B4:=B4.A (av);refine AR J (Bm J) ?_;refine AR J (fun _=>Gr (Ab J) J) ?_;refine AR J (fun _=>Gr (Ab J) J) ?_;refine En J Cp J ?_;intro b6 w6 N6;have b5:=N6.ne B3;have ce:=N6.ne B4;have l6:=N6.ge g;have g:=g.trans N6.g;replace B3:=B3.A (N6.g);replace B4:=B4.A (N6.g);have B6:=N6.H;refine Iq J Fm (Ab J) (Ab J) J J B6 J J ?_;intro dg am b0;clear B6;intro B6
 replace B3:=CL B3 am;replace B4:=CL B4 am;have g:=BJ g am O;refine AR J (fun _=>Fj (Ab J)) ?_;refine EV [(0,_,_),(3,_,_),(4,_,_),(5,_,_),(6,_,_),(7,_,_)] Bp ?_;refine Ai (bf _ _ ?_);refine Ks fun K5 bo=>?_;refine Dx (Ej (some b4)) [0,3,3,3,0,3,3,3,3,3,0,3,3,1,3] [0,0,2,6,14,30,62,126,254,510,1022,2046,4094,255,16383] CG Ag [0,1,2,3,4,5,6,7,8,9,10,11,12,13,14] J ?_;have g:=HG g;replace B3:=B3.A (G.drew _);replace B4:=B4.A (G.drew _);replace B6:=B6.A (G.drew _);refine Mv (L':=[1,2,3,4,5,6,7,8,9,10,11,12,13,14]) 0 J J J (fun w1 hx=>A8 A3 (Ab J) J (fun _=>(B6.C hx (by intro h;first|(injection h with h;omega)|cases h)).row)) ?_;refine Hj (L':=[2,3,4,5,6,7,8,9,10,11,12,13,14]) 1 J J J (Bm J) ?_;refine Hj (L':=[3,4,5,6,7,8,9,10,11,12,13,14]) 2 J J J (Bm J) ?_;refine GO (L':=[4,5,6,7,8,9,10,11,12,13,14]) 3 J J J J J (fun _=>AB OE (Ab J)) ?_;refine J2 (L':=[5,6,7,8,9,10,11,12,13,14]) 4 J J J J J (fun w1 hx=>AZ Cb (Ah J id) (fun _=>(B6.C hx (by intro h;first|(injection h with h;omega)|cases h)).y J)) ?_;refine GO (L':=[6,7,8,9,10,11,12,13,14]) 5 J J J J J (fun _=>Gk (Ah J id) Bd) ?_;refine Hj (L':=[7,8,9,10,11,12,13,14]) 6 J J J (fun _=>Et (Ab J) (Ah J id)) ?_;refine Hj (L':=[8,9,10,11,12,13,14]) 7 J J J (Bm J) ?_
 refine GO (L':=[9,10,11,12,13,14]) 8 J J J J J (fun _=>AB Fg (Ab J)) ?_;refine GO (L':=[10,11,12,13,14]) 9 J J J J J (fun _=>AB Rd (Ah J id)) ?_;refine J2 (L':=[11,12,13,14]) 10 J J J J J (fun w1 hx=>AZ Cb (Ah J id) (fun _=>(B6.C hx (by intro h;first|(injection h with h;omega)|cases h)).y J)) ?_;refine GO (L':=[12,13,14]) 11 J J J J J (fun _=>Q8 (Ah J id) Bd) ?_;refine Hj (L':=[13,14]) 12 J J J (fun _=>Et (Ab J) (Ah J id)) ?_;refine AW 13 J J ?_;refine Bt (L':=[14]) [0,3,3,3,0,3,3,3,3,3,0,3,3,2,3] J J J ?_;refine Iq J Fm (Ab J) (Ab J) J J B4 J J ?_;intro di aj bu;clear B4;intro B4;replace B3:=CL B3 aj;replace B6:=CL B6 aj;have g:=BJ g aj O;refine Bs (aj) ?_;refine Hj (L':=[]) 14 J J J (fun _=>Fj (Ab J)) ?_;refine Ke [(0,_,_),(3,_,_),(4,_,_),(5,_,_)] Bp ?_;refine FW (bo _ _ ?_);refine Dl (IZ (rs:=[.cell 4 26,.tmp 5]) (vs:=[_,_]) J J (GJ J A3 J (by first|exact B3.row|exact B4.row|exact B6.row) (Ij J (GD))) J ?_);refine ⟨⟨Cd (Cx F S t).1 (.slice none 0 0),?_,?_⟩,g⟩;unfold G4;rw [BU h1];rfl;have e:(G4 F t (Av F t) S).1=(Cx F S t).1:=by unfold G4;rw [BU h1];rfl
 rw [e];exact BO (t:=(Cx F S t).1) rfl (PN _ _);have h1:t.k≠27:=CF h1;refine CJ (be _ _ ?_);refine Vd [(0,_,_),(3,_,_),(4,_,_),(5,_,_)] Bp ?_;refine Ks fun K6 ba=>?_;refine Ks fun K7 bc=>?_;refine Kb [3,0,3] ?_;refine AR J (fun _=>AB FP (Ab J)) ?_;refine FG J (AZ Cb (Ab J) (fun _=>B3.y J)) ?_;refine AR J (fun _=>Gk (Ab J) Bd) ?_;refine EV [(0,_,_),(3,_,_),(4,_,_),(5,_,_),(35,_,_)] Bp ?_;refine Ai (bc _ _ ?_);refine Qz (Ab J) (fun h2=>?_) (fun h2=>?_);have h2:t.k=28:=AH h2;refine Ks fun K8 bn=>?_;refine Kb [3,3,0,1,2] ?_;refine AR J (Bm J) ?_;refine AR J (fun _=>FZ (Ab J)) ?_;refine FG J (A8 YB (Ab J) J (fun _=>(h.B.A g).row)) ?_;refine En J fV J ?_;intro b8 w8 N8;have bz:=N8.ne B3;have cd:=N8.ne B4;have l8:=N8.ge g;have g:=g.trans N8.g;replace B3:=B3.A (N8.g);replace B4:=B4.A (N8.g);have B8:=N8.H;refine Iq J jA (Ab J) (Ab J) J J B8 J J ?_;intro c3 ao bt;have C8:=B8;clear B8;intro B8;replace B3:=CL B3 ao;replace B4:=CL B4 ao;have g:=BJ g ao O;refine EV [(0,_,_),(3,_,_),(4,_,_),(5,_,_),(8,_,_)] Bp ?_;refine Ai (bn _ _ ?_);refine Ks fun K9 bq=>?_;refine Kb [1,3,3,3,0,2,3,2] ?_;refine dL J Lq ?_;intro au df ck af aq;have y8:=B8.lt;have y3:=B3.lt;have y4:=B4.lt;have af:=af w.heap.size g.size;have g:=g.trans aq;have B3:=B3.A aq;have B4:=B4.A aq;have B8:=B8.A aq
 refine AR J (Bm J) ?_;refine AR J (fun _=>FZ (Ab J)) ?_;refine AR J (fun _=>AB LI (Ab J)) ?_;refine FG J (AZ Md (Ab J) (fun _=>(h.B.A g).y J)) ?_;refine Yx J Lq Td J BT (Ab J) af (Ab J) (Ra Wr S.F) (fun h0=>by obtain ⟨b,o,e,r⟩:=bj h0;exact ⟨b,o,e,r.A g⟩) (pA S.F) (by simp only [maxLen];omega) O g.size ?_;intro a8 ay a7 aa al;have B3:=B3.C al (fun e=>by have e':b3=au:=(by injection e);omega);have B4:=B4.C al (fun e=>by have e':b4=au:=(by injection e);omega);have B8:=B8.C al (fun e=>by have e':b8=au:=(by injection e);omega);have g:G w a7:=M1 g al g.size (fun k hk=>(af.lt k hk).1);have aa:a7.ownsRow w.heap.size 96 6 (.slice a8 (0+S.F.length) ay) (0+S.F.length) (S.F.flatMap JU):=aa;rw [show 0+S.F.length=S.F.length from Cj _] at aa ⊢;refine AR J (fun _=>AB LI (Ab J)) ?_;refine Ik J Sz (Ab J) (Ab J) J B8 J J ?_;intro cz ak ch;have C8:=B8;clear B8;intro B8;replace B3:=CL B3 ak;replace B4:=CL B4 ak;have g:=BJ g ak O;have aa:=Dg aa ak (.inr (DY aa C8 rfl));refine EV [(0,_,_),(3,_,_),(4,_,_),(5,_,_),(8,_,_)] Bp ?_;refine Ai (bq _ _ ?_);refine Ks fun dc a5=>?_;refine Kb [1,3,3,3,0,2,3,2] ?_;refine dL J Jm ?_;intro ax c6 ci ac ap;have y8:=B8.lt;have y3:=B3.lt;have y4:=B4.lt;have ac:=ac w.heap.size g.size;have g:=g.trans ap;have B3:=B3.A ap;have B4:=B4.A ap;have B8:=B8.A ap
 have aa:=Ef aa ap;refine AR J (Bm J) ?_;refine AR J (fun _=>FZ (Ab J)) ?_;refine AR J (fun _=>AB QD (Ab J)) ?_;refine FG J (AZ Ol (Ab J) (fun _=>(h.B.A g).y J)) ?_;refine Yx J Jm MP J BT (Ab J) ac (Ab J) (by rw [Cq,E0]) (fun h0=>by obtain ⟨b,o,e,r⟩:=br h0;exact ⟨b,o,e,r.A g⟩) (sJ S.next) (by simp only [maxLen];omega) O g.size ?_;intro a9 a6 a2 ab ag;have B3:=B3.C ag (fun e=>by have e':b3=ax:=(by injection e);omega);have B4:=B4.C ag (fun e=>by have e':b4=ax:=(by injection e);omega);have B8:=B8.C ag (fun e=>by have e':b8=ax:=(by injection e);omega);have aa:=Dg aa ag (Ji aa ac rfl);have g:G w a2:=M1 g ag g.size (fun k hk=>(ac.lt k hk).1);have ab:a2.ownsRow w.heap.size 3 1 (.slice a9 (0+S.next.length) a6) (0+S.next.length) (S.next.map fun (k:Nat)=>Value.int .i64 (k:Int)):=ab;rw [show 0+S.next.length=S.next.length from Cj _] at ab ⊢;refine AR J (fun _=>AB QD (Ab J)) ?_;refine Ik J Pp (Ab J) (Ab J) J B8 J J ?_;intro bk ah cb;have C8:=B8;clear B8;intro B8;replace B3:=CL B3 ah;replace B4:=CL B4 ah;have g:=BJ g ah O;have aa:=Dg aa ah (.inr (DY aa C8 rfl));have ab:=Dg ab ah (.inr (DY ab C8 rfl));refine EV [(3,_,_),(4,_,_),(5,_,_),(8,_,_)] Bp ?_;refine Ai (a5 _ _ ?_);refine Ks fun cr a1=>?_;refine Kb [0,2,3,3,3,1,2,3] ?_
 have hP:FS F w.heap.size b8 S (.slice pf F.j.length cf) (.slice a8 S.F.length ay) (.slice a9 S.next.length a6) bk:=⟨B8,l8,(h.kF.A g).mono (fun k hk _=>O),h.hF,aa,ab⟩;have bh:=(a4.A g).mono (D':=fun k=>k<w.heap.size) (fun k hk _=>O);refine FG J (A8 A3 (Ab J) J (fun _=>B3.row)) ?_;refine EB J (BF pW BX (CM (Ab J) (CM (Ab J) (DC))) J) (Nq.to (HM h2) [b3,b4] hP.ah bh hb bb (Bu.2 ⟨B3.lt,(Bu.2 ⟨B4.lt,(Gq _)⟩)⟩) g.size) ?_;rintro cy cq ⟨⟨da,cu,rfl,bi,ae⟩,hQ,aw⟩;refine ⟨Fa,?_⟩;have g:=OJ g aw (AA _);have B3:=B3.gt aw rfl;have B4:=B4.gt aw rfl;obtain ⟨dh,cp,c2,hQ⟩:=hQ;have B8:=hQ.B;refine AR J (Bm J) ?_;refine AR J (fun _=>Gr (Ab J) J) ?_;refine AR J (fun _=>Gr (Ab J) J) ?_;refine En J Cp J ?_;intro b9 w9 N9;have bw:=N9.ne B3;have cg:=N9.ne B4;have b2:=N9.ne B8;have l9:=N9.ge g;have ae:=ae.new N9;have g:=g.trans N9.g;replace B3:=B3.A (N9.g);replace B4:=B4.A (N9.g);replace B8:=B8.A (N9.g);have B9:=N9.H;refine Iq J Fm (Ab J) (Ab J) J J B9 J J ?_;intro db ai bv;clear B9;intro B9;replace B3:=CL B3 ai;replace B4:=CL B4 ai;replace B8:=CL B8 ai;have g:=BJ g ai O;have ae:=ae.C ai BR;refine AR J (fun _=>Fj (Ab J)) ?_;refine EV [(4,_,_),(5,_,_),(8,_,_),(9,_,_),(10,_,_)] Bp ?_;refine Ai (a1 _ _ ?_)
 refine Ks fun de az=>?_;refine Dx (Ej (some b4)) [0,3,3,3,0,3,3,3,3,3,0,3,3,1,3] [0,0,2,6,14,30,62,126,254,510,1022,2046,4094,255,16383] CG Ag [0,1,2,3,4,5,6,7,8,9,10,11,12,13,14] J ?_;have g:=HG g;replace B3:=B3.A (G.drew _);replace B4:=B4.A (G.drew _);replace B8:=B8.A (G.drew _);replace B9:=B9.A (G.drew _);have aa:=Ef aa (G.drew _);have ab:=Ef ab (G.drew _);have ae:=ae.A (G.drew _);refine Mv (L':=[1,2,3,4,5,6,7,8,9,10,11,12,13,14]) 0 J J J (fun w1 hx=>A8 A3 (Ab J) J (fun _=>(B9.C hx (by intro h;first|(injection h with h;omega)|cases h)).row)) ?_;refine Hj (L':=[2,3,4,5,6,7,8,9,10,11,12,13,14]) 1 J J J (Bm J) ?_;refine Hj (L':=[3,4,5,6,7,8,9,10,11,12,13,14]) 2 J J J (Bm J) ?_;refine GO (L':=[4,5,6,7,8,9,10,11,12,13,14]) 3 J J J J J (fun _=>AB Rq (Ab J)) ?_;refine J2 (L':=[5,6,7,8,9,10,11,12,13,14]) 4 J J J J J (fun w1 hx=>AZ NI (Ah J id) (fun _=>(B8.C hx (by intro h;first|(injection h with h;omega)|cases h)).y J)) ?_;refine GO (L':=[6,7,8,9,10,11,12,13,14]) 5 J J J J J (fun _=>Gk (Ah J id) Bd) ?_;refine Hj (L':=[7,8,9,10,11,12,13,14]) 6 J J J (fun _=>Et (Ab J) (Ah J id)) ?_;refine Hj (L':=[8,9,10,11,12,13,14]) 7 J J J (Bm J) ?_;refine GO (L':=[9,10,11,12,13,14]) 8 J J J J J (fun _=>AB Fg (Ab J)) ?_;refine GO (L':=[10,11,12,13,14]) 9 J J J J J (fun _=>AB Rd (Ah J id)) ?_;refine J2 (L':=[11,12,13,14]) 10 J J J J J (fun w1 hx=>AZ Cb (Ah J id) (fun _=>(B9.C hx (by intro h;first|(injection h with h;omega)|cases h)).y J)) ?_
 refine GO (L':=[12,13,14]) 11 J J J J J (fun _=>Q8 (Ah J id) Bd) ?_;refine Hj (L':=[13,14]) 12 J J J (fun _=>Et (Ab J) (Ah J id)) ?_;refine AW 13 J J ?_;refine Bt (L':=[14]) [0,3,3,3,0,3,3,3,3,3,0,3,3,2,3] J J J ?_;refine Iq J Fm (Ab J) (Ab J) J J B4 J J ?_;intro c8 ad b1;clear B4;intro B4;replace B3:=CL B3 ad;replace B8:=CL B8 ad;replace B9:=CL B9 ad;have g:=BJ g ad O;have ae:=ae.C ad BR;refine Bs (ad) ?_;refine Hj (L':=[]) 14 J J J (fun _=>Fj (Ab J)) ?_;refine Ke [(4,_,_),(5,_,_)] Bp ?_;refine FW (az _ _ ?_);refine Dl (IZ (rs:=[.cell 4 26,.tmp 5]) (vs:=[_,_]) J J (GJ J A3 J (by first|exact B3.row|exact B4.row|exact B8.row|exact B9.row) (Ij J (GD))) J ?_)
 have e2:G4 F t (Av F t) S=(((Af F t).N S).1.1,(((Af F t).N S).1.2&&Ac (((Af F t).N S).2.ee=0))&&Ac (8≤((Af F t).N S).1.1.ty.k)):=by
  rw [em];unfold G4;rw [Aq h1,BU h2];rfl
 rw [e2];exact ⟨⟨_,rfl,BO rfl (ae.W bi)⟩,g⟩;have h2:t.k≠28:=CF h2;refine CJ (ba _ _ ?_);refine Vd [(4,_,_),(5,_,_)] Bp ?_;refine Ks fun c5 a3=>?_;refine Kb [3,2,3] ?_;refine Hg Cp MV CH J J ?_;refine Iq J Fm (Ab J) (Ab J) J J B4 J J ?_;intro cw ar b7;clear B4;intro B4;replace B3:=CL B3 ar;have g:=BJ g ar O;refine AR J (fun _=>Fj Bd) ?_;refine EV [(4,_,_),(5,_,_)] Bp ?_;refine Ai (a3 _ _ ?_);refine Dl (IZ (rs:=[.cell 4 26,.tmp 5]) (vs:=[_,_]) J J (GJ J A3 J (by first|exact B3.row|exact B4.row) (Ij J (GD))) J ?_)
 have e2:G4 F t (Av F t) S=(Fr,false):=by
  unfold G4;rw [Aq h1,Aq h2];rfl
 rw [e2];exact ⟨⟨_,rfl,BO (t:=Fr) rfl (IL _ _)⟩,g⟩
set_option maxHeartbeats 2000000
def Gd(lo:Nat)(X:List Nat)(w:Ae)(l:List Bo)(v:AJ):Prop:=∃ p c,v = .slice p l.length c∧(0<l.length→∃ b o cs fr,p=some ⟨b,o,none⟩∧(lo≤b∧b∉X)∧w.heap[b]? = some (.cells cs 24 fr)∧CQ w b o (l.flatMap Ek))
section
variable {lo lo' n0 j b:Nat} {X:List Nat} {w w':Ae} {l:List Bo} {v:AJ}
theorem Gd.ac(h:Gd lo X w l v){X':List Nat}(hs:∀ b,b<w.heap.size→(∃ cs fr,w.heap[b]? = some (.cells cs 24 fr))→lo≤b→b∉X→b∉X'∧w'.heap[b]? = w.heap[b]?):Gd lo X' w' l v:=by
 obtain ⟨p,c,rfl,h⟩:=h;refine ⟨p,c,rfl,fun h0=>?_⟩;obtain ⟨b,o,cs,fr,rfl,hb,hh,hR⟩:=h h0;obtain ⟨q1,q2⟩:=hs b (EY.1 hh).1 ⟨cs,fr,hh⟩ hb.1 hb.2;exact ⟨b,o,cs,fr,rfl,⟨hb.1,q1⟩,q2.trans hh,fun i v hi=>(CY q2).trans (hR i v hi)⟩
theorem Gd.A(h:Gd lo X w l v)(g:G w w'):Gd lo X w' l v:=h.ac fun b aa _ _ hx=>⟨hx,g.block aa⟩
theorem Gd.gt(h:Gd lo X w l v)(g:AP DU n0 w w'):Gd lo X w' l v:=h.ac fun b aa ⟨cs,fr,hh⟩ _ hx=>⟨hx,g.block b aa (.inr fun ⟨ac,f',ab,h1,h2⟩=>by
 rw [hh] at h1;injection h1 with h1;injection h1 with _ h1;subst h1;exact absurd h2 Ju)⟩
theorem Gd.C(h:Gd lo X w l v)(hg:w.grownBy w' (some j))(hj:j<lo∨j∈X):Gd lo X w' l v:=h.ac fun b aa _ hl hx=>⟨hx,hg.block b aa fun e=>by
 injection e with e;subst e;rcases hj with hj|hj;omega;exact hx hj⟩
theorem Gd.af{e:AD}{xs:List AJ}(h:Gd lo X w l v)(hg:w.grownBy w' (some j))(hB:Ax w j e xs)(he:A2 e 24=false):Gd lo X w' l v:=h.ac fun b aa ⟨cs,fr,hh⟩ hl hx=>⟨hx,hg.block b aa fun q=>by
 injection q with q;subst q;unfold Ax at hB;rw [hB] at hh;injection hh with hh;injection hh with _ hh;subst hh;simp at he⟩
theorem Gd.new{e:AD}{xs:List AJ}(h:Gd lo X w l v)(N:Ki w w' b e xs):Gd lo (b::X) w' l v:=h.ac fun b' aa _ hl hx=>⟨fun hm=>by
 have:=N.y;rcases Dr.1 hm with q|q;omega;exact hx q,N.g.block aa⟩
theorem Gd.row(h:Gd lo X w l v):UG w l v:=by
 obtain ⟨p,c,rfl,h⟩:=h;exact ⟨p,c,rfl,fun h0=>by obtain ⟨b,o,cs,fr,e,_,hh,hR⟩:=h h0;exact ⟨b,o,cs,fr,e,hh,hR⟩⟩
theorem UG.x(h:UG w l v):Gd 0 [] w l v:=by
 obtain ⟨p,c,rfl,h⟩:=h;exact ⟨p,c,rfl,fun h0=>by obtain ⟨b,o,cs,fr,e,hh,hR⟩:=h h0;exact ⟨b,o,cs,fr,e,⟨CC _,Gm⟩,hh,hR⟩⟩
theorem GF:Gd lo X w [] (.slice none 0 0):=⟨none,0,rfl,fun h=>absurd h BT⟩
theorem E1{k c:Nat}{xs:List AJ}(h:Ax w k 24 xs)(hx:xs=l.flatMap Ek)(hl:lo≤k):Gd lo [] w l (.slice (some ⟨k,0,none⟩) l.length c):=⟨_,_,rfl,fun _=>⟨k,0,_,_,rfl,⟨hl,Gm⟩,h,hx▸h.row⟩⟩
theorem iF(h:w.ownsRow lo 24 2 v l.length (l.flatMap Ek)):Gd lo [] w l v:=by
 obtain ⟨p,c,rfl,_⟩:=IJ h;refine ⟨p,c,rfl,fun h0=>?_⟩;obtain ⟨g,c',cs,hv,hg,hB,_⟩:=Q9 h h0;obtain ⟨g2,c2,aa,_,hR,_⟩:=LU h h0;injection hv with AU _ _;rw [AU] at aa;injection aa with e2 _ _;injection e2 with e2;injection e2 with e2;subst e2;exact ⟨g,0,_,_,AU,⟨hg,Gm⟩,hB,hR⟩
end
def dY(lo:Nat)(r:List Bo×Bo×Bool)(v:AJ)(w:Ae):Prop:=∃ l,v = .tuple #[l,D7 r.2.1,.bool r.2.2]∧Gd lo [] w r.1 l
theorem rK(y:Bo)(s:List UInt8)(w:Ae):Bz An 173 #[D7 y,Cg s] w fun v w'=>dY w.heap.size (Ds y s) v w'∧G w w':=by
 have g:=G.refl w;refine Cu 90 [0,1] Tryz.func173 ?_;refine CT fun _ _ _ _ g E=>?_;refine A5 fun b5 _ _ _ g E=>?_;refine Ad ?_;refine DI (Ye _ _) (DB fun af ae g E=>?_);refine Aw (fun h1=>?_) fun h1=>?_;(try simp only [BH] at h1);refine AS fun _ _ _ g E=>?_;refine AN ?_;refine ⟨?_,g⟩;unfold Ds;rw [h1];exact ⟨_,rfl,GF⟩;refine A5 fun _ _ _ _ g E=>?_;refine A5 fun _ _ _ _ g E=>?_;refine A5 fun _ _ _ _ g E=>?_;refine AS fun _ _ _ g E=>?_;refine AS fun _ _ _ g E=>?_;refine AS fun _ _ _ g E=>?_;refine Ad ?_;refine' A1 [1,2,4,5,6,7,8,9,20] (fun Ga=>?y2) (Al ?n2)
 case y2 =>
  refine Ad ?_;refine Ci [21,1,2,4,5,6,7,8,9,20] ?_;exact Ai A0
 case n2 =>
  refine Aw (fun h3=>?_) fun h3=>?_;have hk:y.k=8∨y.k=9:=by simpa using h3
  refine Ad ?_;refine Dx (Ej (some b5)) [0,3,3,3,3,3,0,3,3,3,3,1,3] [0,0,2,6,14,30,62,126,254,510,30,1055,4095] CG Ag [0,1,2,3,4,5,6,7,8,9,10,11,12] J ?_;refine FY fun g E=>?_;refine Bb 0 J J (fun w1 hx=>A8 Cf (Ab J) J (fun _=>(E.g2.C hx (fun h=>E.ne 2 3 J J J (EM h))).row)) (As 1 J J (Bm J) (As 2 J J (Bm J) (GO (L':=[4,5,6,7,8,9,10,11,12]) 3 J J J J J (Bm J) (GO (L':=[5,6,7,8,9,10,11,12]) 4 J J J J J (fun _=>J1 (Ah J id)) (GO (L':=[6,7,8,9,10,11,12]) 5 J J J J J (fun _=>AB Rd (Ab J)) (J2 (L':=[7,8,9,10,11,12]) 6 J J J J J (fun w1 hx=>AZ Cb (Ah J id) (fun _=>(E.g4.C hx (fun h=>E.ne 4 3 J J J (EM h))).y J)) (GO (L':=[8,9,10,11,12]) 7 J J J J J (fun _=>Gk (Ah J id) Bd) (GO (L':=[9,10,11,12]) 8 J J J J J (fun _=>Et (Ah J id) (Ah J id)) (As 9 J J (fun _=>FR (Ab J) (Ah J id)) (As 10 J J (fun _=>Fj Bd) (AW 11 J J ?_)))))))))));refine Bt (L':=[12]) [0,3,3,3,3,3,0,3,3,3,3,2,3] J J J ?_;refine AS fun _ ad _ g E=>?_;refine Bs (ad) ?_;refine As 12 J J (fun _=>Fj (Ab J)) (Dt [4,5,6,7] (FW (Al (Dl (IZ (rs:=[.tmp 4,.cell 5 24,.tmp 6]) (vs:=[_,_,_]) J J (Ij J (GJ J Cf J (E.g3.row) (Ij J (GD)))) J ?_)))));refine ⟨?_,g⟩;unfold Ds;rw [h1];rcases hk with hk|hk;rw [hk];exact ⟨_,by simp [Hm,hk];rfl,GF⟩;rw [hk];exact ⟨_,by simp [Hm,hk,Bool.or_assoc];rfl,GF⟩;have hk:¬ (y.k=8∨y.k=9):=by simpa using h3
  have k8:Ac (y.k=8)=false:=by rw [CB];exact fun e=>hk (.inl e)
  have k9:Ac (y.k=9)=false:=by rw [CB];exact fun e=>hk (.inr e)
  refine Aw (fun h4=>?_) fun h4=>?_;(try simp only [BH] at h4);refine Aw (fun h5=>?_) fun h5=>?_;(try simp only [BH] at h5);refine Ad ?_;skip;refine Jg [0,1,0,3,2,3] [true,true,false,true,true,true] [0,1,0,3,15,31] CG Ag ?_;refine FY fun g E=>?_;have EC:=E;refine Ck fun _ _ _ _ g E=>?_;refine JS J (A8 Cf (Ab J) J (fun _=>EC.g2.row)) ?_;refine AS fun _ _ _ g E=>?_;refine AN ?_;refine ⟨?_,g⟩;unfold Ds;simp only [k8,k9,Hm,h1,h3,h4,h5,AL,AQ]
  first
  | exact ⟨_,rfl,GF⟩
  | exact ⟨_,rfl,E1 (l:=[_]) (by first|assumption|exact E.g 0 rfl) rfl (by assumption)⟩
  | exact ⟨_,rfl,E1 (l:=[_,_]) (by first|assumption|exact E.g 0 rfl) rfl (by assumption)⟩
  refine Ad ?_;refine Dj [0,3,3,3,3,3,3,3,2,3] ?_;refine FY fun g E=>?_;refine AS fun _ _ _ g E=>?_;refine AN ?_;refine ⟨?_,g⟩;unfold Ds;simp only [k8,k9,Hm,h1,h3,h4,h5,AL,AQ]
  first
  | exact ⟨_,rfl,GF⟩
  | exact ⟨_,rfl,E1 (l:=[_]) (by first|assumption|exact E.g 0 rfl) rfl (by assumption)⟩
  | exact ⟨_,rfl,E1 (l:=[_,_]) (by first|assumption|exact E.g 0 rfl) rfl (by assumption)⟩
  refine Aw (fun h6=>?_) fun h6=>?_;(try simp only [BH] at h6);refine Aw (fun h7=>?_) fun h7=>?_;(try simp only [BH] at h7);refine Ad ?_;skip;refine Jg [3,1,0,3,2,3] [true,true,false,true,true,true] [0,1,0,3,15,31] CG Ag ?_;refine FY fun g E=>?_;have EC:=E;refine Ck fun _ _ _ _ g E=>?_;refine JS J (A8 Cf (Ab J) J (fun _=>EC.g2.row)) ?_;refine AS fun _ _ _ g E=>?_;refine AN ?_;refine ⟨?_,g⟩;unfold Ds;simp only [k8,k9,Hm,h1,h3,h4,h6,h7,AL,AQ]
  first
  | exact ⟨_,rfl,GF⟩
  | exact ⟨_,rfl,E1 (l:=[_]) (by first|assumption|exact E.g 0 rfl) rfl (by assumption)⟩
  | exact ⟨_,rfl,E1 (l:=[_,_]) (by first|assumption|exact E.g 0 rfl) rfl (by assumption)⟩
  refine Ad ?_;refine Dj [0,3,2,3] ?_;refine FY fun g E=>?_;refine AS fun _ _ _ g E=>?_;refine AN ?_;refine ⟨?_,g⟩;unfold Ds;simp only [k8,k9,Hm,h1,h3,h4,h6,h7,AL,AQ]
  first
  | exact ⟨_,rfl,GF⟩
  | exact ⟨_,rfl,E1 (l:=[_]) (by first|assumption|exact E.g 0 rfl) rfl (by assumption)⟩
  | exact ⟨_,rfl,E1 (l:=[_,_]) (by first|assumption|exact E.g 0 rfl) rfl (by assumption)⟩
  refine Aw (fun h8=>?_) fun h8=>?_;(try simp only [BH] at h8);refine Aw (fun h9=>?_) fun h9=>?_;(try simp only [BH] at h9);refine Ad ?_;refine Dj [0,3,2,3] ?_;refine FY fun g E=>?_;refine AS fun _ _ _ g E=>?_;refine AN ?_;refine ⟨?_,g⟩;unfold Ds;simp only [k8,k9,Hm,h1,h3,h4,h6,h8,h9,AL,AQ]
  first
  | exact ⟨_,rfl,GF⟩
  | exact ⟨_,rfl,E1 (l:=[_]) (by first|assumption|exact E.g 0 rfl) rfl (by assumption)⟩
  | exact ⟨_,rfl,E1 (l:=[_,_]) (by first|assumption|exact E.g 0 rfl) rfl (by assumption)⟩
  refine Aw (fun aa=>?_) fun aa=>?_;(try simp only [BH] at aa);refine Ad ?_;skip;refine Jg [0,1,0,3,2,3] [true,true,false,true,true,true] [0,1,0,3,15,31] CG Ag ?_;refine FY fun g E=>?_;have EC:=E;refine Ck fun _ _ _ _ g E=>?_;refine JS J (A8 Cf (Ab J) J (fun _=>EC.g2.row)) ?_;refine AS fun _ _ _ g E=>?_;refine AN ?_;refine ⟨?_,g⟩;unfold Ds;simp only [k8,k9,Hm,h1,h3,h4,h6,h8,h9,aa,AL,AQ]
  first
  | exact ⟨_,rfl,GF⟩
  | exact ⟨_,rfl,E1 (l:=[_]) (by first|assumption|exact E.g 0 rfl) rfl (by assumption)⟩
  | exact ⟨_,rfl,E1 (l:=[_,_]) (by first|assumption|exact E.g 0 rfl) rfl (by assumption)⟩
  refine Aw (fun ab=>?_) fun ab=>?_;(try simp only [BH] at ab);refine Ad ?_;skip;refine Jg [0,1,0,3,2,3] [true,true,false,true,true,true] [0,1,0,3,15,31] CG Ag ?_;refine FY fun g E=>?_;have EC:=E;refine Ck fun _ _ _ _ g E=>?_;refine JS J (A8 Cf (Ab J) J (fun _=>EC.U.row)) ?_;refine AS fun _ _ _ g E=>?_;refine AN ?_;refine ⟨?_,g⟩;unfold Ds;simp only [k8,k9,Hm,h1,h3,h4,h6,h8,h9,aa,ab,AL,AQ]
  first
  | exact ⟨_,rfl,GF⟩
  | exact ⟨_,rfl,E1 (l:=[_]) (by first|assumption|exact E.g 0 rfl) rfl (by assumption)⟩
  | exact ⟨_,rfl,E1 (l:=[_,_]) (by first|assumption|exact E.g 0 rfl) rfl (by assumption)⟩
  refine Aw (fun ac=>?_) fun ac=>?_;(try simp only [BH] at ac);refine Ad ?_;skip;refine Jg [0,0,1,0,3,2,3] [true,true,true,false,true,true,true] [0,0,3,0,7,31,63] CG Ag ?_;refine FY fun g E=>?_;have EC:=E;refine Ck fun _ _ _ _ g E=>?_;refine JS J (A8 Cf (Ab J) J (fun _=>EC.J.row)) ?_;refine AS fun _ _ _ g E=>?_;refine AN ?_;refine ⟨?_,g⟩;unfold Ds;simp only [k8,k9,Hm,h1,h3,h4,h6,h8,h9,aa,ab,ac,AL,AQ]
  first
  | exact ⟨_,rfl,GF⟩
  | exact ⟨_,rfl,E1 (l:=[_]) (by first|assumption|exact E.g 0 rfl) rfl (by assumption)⟩
  | exact ⟨_,rfl,E1 (l:=[_,_]) (by first|assumption|exact E.g 0 rfl) rfl (by assumption)⟩
  refine Ad ?_;refine Dj [0,3,2,3] ?_;refine FY fun g E=>?_;refine AS fun _ _ _ g E=>?_;refine AN ?_;refine ⟨?_,g⟩;unfold Ds;simp only [k8,k9,Hm,h1,h3,h4,h6,h8,h9,aa,ab,ac,AL,AQ]
  first
  | exact ⟨_,rfl,GF⟩
  | exact ⟨_,rfl,E1 (l:=[_]) (by first|assumption|exact E.g 0 rfl) rfl (by assumption)⟩
  | exact ⟨_,rfl,E1 (l:=[_,_]) (by first|assumption|exact E.g 0 rfl) rfl (by assumption)⟩
  refine Ad ?_;refine Dj [0,3,2,3] ?_;refine FY fun g E=>?_;refine AS fun _ _ _ g E=>?_;refine AN ?_;refine ⟨?_,g⟩;unfold Ds;simp only [k8,k9,Hm,h1,h3,h4,h6,h8,AL,AQ]
  first
  | exact ⟨_,rfl,GF⟩
  | exact ⟨_,rfl,E1 (l:=[_]) (by first|assumption|exact E.g 0 rfl) rfl (by assumption)⟩
  | exact ⟨_,rfl,E1 (l:=[_,_]) (by first|assumption|exact E.g 0 rfl) rfl (by assumption)⟩
theorem X2(y:Bo)(s:List UInt8){w:Ae}(Z:List Nat)(hZ:∀ j∈Z,j<w.heap.size):Bz An 173 #[D7 y,Cg s] w fun r w'=>(∃ p c,r = .tuple #[.slice p (Ds y s).1.length c,D7 (Ds y s).2.1,.bool (Ds y s).2.2]∧Gd w.heap.size Z w' (Ds y s).1 (.slice p (Ds y s).1.length c))∧G w w' :=
 (rK y s w).mono fun r w' hr=>by
 obtain ⟨⟨l,e,h⟩,h1⟩:=hr;obtain ⟨p,c,rfl,_⟩:=id h;exact ⟨⟨p,c,e,h.ac fun b _ _ hl _=>⟨fun hm=>by have:=hZ b hm;omega,rfl⟩⟩,h1⟩
theorem P9.to{F t:Nd}(H:P9 F t){n0 b:Nat}{S:Ak}{w:Ae}{v:AJ}{N m0:Nat}(Z:List Nat)(h:D5 F n0 b S w)(hk:Bv w (fun k=>k<n0) t.j v)(hb:EO S N)(hc:N+count t≤1000000)(hZ:∀ j∈Z,j<w.heap.size)(hm:m0≤w.heap.size) :
 Bz An 172 #[.pointer (some ⟨b,0,none⟩),Cd t v] w fun r w'=>(∃ p c,r = .tuple #[Cd ((Af F t).rcv S).1 (.slice p ((Af F t).rcv S).1.j.length c),.bool ((Af F t).rcv S).2]∧m0≤w.heap.size∧EP w.heap.size Z w' ((Af F t).rcv S).1.j (.slice p ((Af F t).rcv S).1.j.length c))∧G w w' :=
 (H h hk hb hc).mono fun r w' hr=>by
 obtain ⟨⟨u,e,p,c,e2,k⟩,h1⟩:=hr;subst e2;exact ⟨⟨p,c,e,hm,Gb.x k hZ⟩,h1⟩
set_option maxHeartbeats 4000000
theorem mY{F:Nd}{S:Ak}{t:Nd}(h:((Cx F S t).2&&Ac ((Cx F S t).1.ref=3))=true):0≤(A9 F 4 t.o).2:=by
 by_cases h4:0≤(A9 F 4 t.o).2;exact h4;exfalso;revert h;unfold Cx
 cases E9 S.F t.o with
 | some v=>intro h;rw [CW] at h;exact absurd (AH h.2) (show ¬ (1:Int)=3 by decide)
 | none =>
  dsimp only;rw [Aq h4];cases Ac (0≤(A9 F 6 t.o).2);intro h;cases h;intro h;rw [CW] at h;exact absurd (AH h.2) (show ¬ (2:Int)=3 by decide)
theorem ZP{w:Ae}{n0 m:Nat}{v:AJ}{xs:List AJ}(h:w.ownsRow n0 24 2 v m xs)(k:Nat)(hk:v.ownBlock=some k):¬ LZ DU w k:=fun ⟨cs,f,fr,h1,h2⟩=>by
 obtain ⟨_,ab,e',aa,h3,h4⟩:=QG (M:=fun e _=>A2 e 24) h rfl k hk;rw [h1] at h3;injection h3 with h3;injection h3 with _ h3;subst h3;have:=Du h4;subst this;exact absurd h2 Ju
theorem rW{F t:Nd}(H:Li F)(K:∀ i,i<t.j.length→KP F (Aa t i))(HX:Dv F 121 t (Af F t).ex)(hx:BN t=true):QX F t:=by
 intro n0 b S w v N h ah hb bs;have ec:(Af F t).K S=FB F t (Av F t) S:=by rw [GL];rfl
 have a9:(Af F t).ex S=Eg F t (Av F t) S:=by rw [GL];rfl
 rw [ec];obtain ⟨p,c,rfl,_⟩:=id ah;have dg:=h.lt;have ct:=JY t;have g:=AP.refl DU n0 w;refine Cu 153 [0,1] Tryz.func162 ?_;refine CT fun b3 _ ga _ g E=>?_;have h:=Ar h;have ah:=Ar ah;refine A5 fun b4 _ ga l4 g E=>?_;have h:=Ar h;have ah:=Ar ah;refine A5 fun b6 _ ga _ g E=>?_;have h:=Ar h;have ah:=Ar ah;refine Aw (fun h1=>?_) fun h1=>?_
 ·have h1:t.k=28:=AH h1
  obtain ⟨_,hl,he⟩:=Og h1 hx;have dl:=P7 hl;have Q0:=K 0 O;have x0:Av F t 0=Af F (Aa t 0):=Dq O;obtain ⟨hpe,c3,cz,hcell,a8⟩:=Ba ah (i:=0) O;refine Ad ?_;refine AO (P9.to (Q0.rcv he) [b3,b4,b6] h a8 hb O (E.Q Br) g.size) ?_;rintro _ _ ⟨⟨dd,c7,rfl,cj,ae⟩,ga⟩;refine A4 fun g E=>?_;have h:=AV h;have ah:=AV ah;refine A5 fun b7 _ ga _ g E=>?_;have ae:=Bq ae;have h:=Ar h;have ah:=Ar ah;refine AX fun _ ga Ca g E h=>?_;have ah:=Co ah;have ae:=AK ae;refine Aw (fun h2=>?_) fun h2=>?_
  ·(try simp only [BH] at h2)
   obtain ⟨hpe,c5,c6,hcell,a8⟩:=Ba ah (i:=0) O;refine Aw (fun h3=>?_) fun h3=>?_
   ·have h3:(Aa t 0).k=28:=AH h3
    obtain ⟨hpe,c4,cw,hcell,a8⟩:=Ba ah (i:=0) O;refine Ad ?_;refine AO (Nq.to (Q0.N he h3) [b3,b4,b6,b7] h a8 hb O (E.Q Br) g.size) ?_;rintro _ _ ⟨⟨c9,df,rfl,cg,af⟩,h,ga⟩;refine A4 fun g E=>?_;refine AX fun _ ga Ca g E h=>?_;have af:=AK af;refine Ad ?_;refine AO (Is t _ _ _) ?_;rintro _ _ ⟨rfl,ga⟩;refine A4 fun g E=>?_;have h:=AV h;have af:=AV af;refine A5 fun b9 _ ga l9 g E=>?_;have af:=Bq af;have h:=Ar h;refine AX fun _ ga Ca g E h=>?_;have af:=AK af;refine Ck fun _ _ ga ba g E=>?_;have af:=Bq af;have h:=Ar h;refine AX fun _ ga Ca g E h=>?_;have af:=AK af;refine Ad ?_;refine AO (X2 _ _ [b3,b4,b6,b7,b9] (E.Q Br)) ?_;rintro _ _ ⟨⟨b5,cd,rfl,aa⟩,ga⟩;refine A4 fun g E=>?_;have h:=AV h;have af:=AV af;refine A5 fun _ _ ga c8 g E=>?_;have aa:=Bq aa;have af:=Bq af;have h:=Ar h;refine AS fun _ ga Ca g E=>?_;have aa:=IW aa;have h:=G3 h;have af:=AK af;refine Aw (fun h4=>?_) fun h4=>?_
    ·(try simp only [BH] at h4)
     refine Ad ?_;refine AO (F4 t.z 5 h) ?_;rintro _ _ ⟨rfl,h,ga⟩;refine A4 fun g E=>?_;have aa:=DP aa;have af:=DP af;refine Ad ?_;refine Dx (Ej (some b4)) [0,3,0,1,3,2] [0,0,0,1,11,31] CG Ag [0,1,2,3,4,5] J ?_;refine OK fun g E=>?_;have aa:=aa.A (G.drew _);have h:=h.A (G.drew _);have af:=af.A (G.drew _);refine Bb 0 J J (fun w1 hx=>A8 A3 (Ab J) J (fun _=>(E.g2.C hx (fun q=>(E.ne 2 5 J J J) (by injection q))).row)) (As 1 J J (Bm J) (Bb 2 J J (fun w1 hx=>A8 Cf (Ab J) J (fun _=>(E.J.C hx (fun q=>(E.ne 0 5 J J J) (by injection q))).row)) (AW 3 J J ?_)));refine Bt (L':=[4,5]) [0,3,0,2,3,2] J J J ?_;refine AS fun _ a1 Ca g E=>?_;first|have aa:=aa.af a1 Ca rfl|have aa:=aa.C a1 (by first|exact .inl O|simp)
     have h:=h.C a1 Ca rfl O;have af:=af.C a1 BR;refine Bs (a1) ?_;refine As 4 J J (fun _=>Fj (Ab J)) (AW 5 J J ?_);refine DN (L':=[]) [0,3,0,2,3,2] J J J J ?_;refine AS fun _ ga Ca g E=>?_;have aa:=IW aa;have h:=G3 h;have af:=AK af;refine DL ?_;refine Dt [0,3,4,5,6] ?_;refine AN ?_;have hm:(Ds ((Af F (Aa t 0)).N S).1.1.ty t.o).2.2=false:=by simpa using h4
     have e:FB F t (Av F t) S=((AF t [((Af F (Aa t 0)).N S).1.1] Az,(Ds ((Af F (Aa t 0)).N S).1.1.ty t.o).1,(Ds ((Af F (Aa t 0)).N S).1.1.ty t.o).2.1),AG (Ds ((Af F (Aa t 0)).N S).1.1.ty t.o).2.2 t.z 5 ((Af F (Aa t 0)).N S).2):=by
      unfold FB;rw [BU h1,x0,h2];show ((AF t [(Gz t (Av F t) S).1] Az,(Ds (Gz t (Av F t) S).1.ty t.o).1,(Ds (Gz t (Av F t) S).1.ty t.o).2.1),AG (Ds (Gz t (Av F t) S).1.ty t.o).2.2 t.z 5 (Gz t (Av F t) S).2)=_;unfold Gz;rw [x0,BU h3];rfl
     rw [e,hm];exact ⟨⟨_,_,rfl,BO (t:=AF t [_] Az) rfl (Ec (ks:=[_]) ⟨ba,DK E.U⟩ E.U.row (DG (af.W cg)) (AA _)),aa.row⟩,h,g⟩
    refine Ad ?_;refine Dx (Ej (some b4)) [0,3,0,1,3,2] [0,0,0,1,11,31] CG Ag [0,1,2,3,4,5] J ?_;refine OK fun g E=>?_;have aa:=aa.A (G.drew _);have h:=h.A (G.drew _);have af:=af.A (G.drew _);refine Bb 0 J J (fun w1 hx=>A8 A3 (Ab J) J (fun _=>(E.g2.C hx (fun q=>(E.ne 2 5 J J J) (by injection q))).row)) (As 1 J J (Bm J) (Bb 2 J J (fun w1 hx=>A8 Cf (Ab J) J (fun _=>(E.J.C hx (fun q=>(E.ne 0 5 J J J) (by injection q))).row)) (AW 3 J J ?_)));refine Bt (L':=[4,5]) [0,3,0,2,3,2] J J J ?_;refine AS fun _ az Ca g E=>?_;first|have aa:=aa.af az Ca rfl|have aa:=aa.C az (by first|exact .inl O|simp)
    have h:=h.C az Ca rfl O;have af:=af.C az BR;refine Bs (az) ?_;refine As 4 J J (fun _=>Fj (Ab J)) (AW 5 J J ?_);refine DN (L':=[]) [0,3,0,2,3,2] J J J J ?_;refine AS fun _ ga Ca g E=>?_;have aa:=IW aa;have h:=G3 h;have af:=AK af;refine DL ?_;refine Dt [0,3,4,5,6] ?_;refine AN ?_;have hm:(Ds ((Af F (Aa t 0)).N S).1.1.ty t.o).2.2=true:=by simpa using h4
    have e:FB F t (Av F t) S=((AF t [((Af F (Aa t 0)).N S).1.1] Az,(Ds ((Af F (Aa t 0)).N S).1.1.ty t.o).1,(Ds ((Af F (Aa t 0)).N S).1.1.ty t.o).2.1),AG (Ds ((Af F (Aa t 0)).N S).1.1.ty t.o).2.2 t.z 5 ((Af F (Aa t 0)).N S).2):=by
     unfold FB;rw [BU h1,x0,h2];show ((AF t [(Gz t (Av F t) S).1] Az,(Ds (Gz t (Av F t) S).1.ty t.o).1,(Ds (Gz t (Av F t) S).1.ty t.o).2.1),AG (Ds (Gz t (Av F t) S).1.ty t.o).2.2 t.z 5 (Gz t (Av F t) S).2)=_;unfold Gz;rw [x0,BU h3];rfl
    rw [e,hm];exact ⟨⟨_,_,rfl,BO (t:=AF t [_] Az) rfl (Ec (ks:=[_]) ⟨ba,DK E.U⟩ E.U.row (DG (af.W cg)) (AA _)),aa.row⟩,h,g⟩
   have h3:(Aa t 0).k≠28:=CF h3;refine Ad ?_;refine AO (Is t _ _ _) ?_;rintro _ _ ⟨rfl,ga⟩;refine A4 fun g E=>?_;have h:=AV h;have ae:=AV ae;refine A5 fun b9 _ ga _ g E=>?_;have ae:=Bq ae;have h:=Ar h;refine AX fun _ ga Ca g E h=>?_;have ae:=AK ae;refine Ck fun _ _ ga ba g E=>?_;have ae:=Bq ae;have h:=Ar h;refine AX fun _ ga Ca g E h=>?_;have ae:=AK ae;refine Ad ?_;refine AO (X2 _ _ [b3,b4,b6,b7,b9] (E.Q Br)) ?_;rintro _ _ ⟨⟨b5,cd,rfl,aa⟩,ga⟩;refine A4 fun g E=>?_;have h:=AV h;have ae:=AV ae;refine A5 fun _ _ ga _ g E=>?_;have aa:=Bq aa;have ae:=Bq ae;have h:=Ar h;refine AS fun _ ga Ca g E=>?_;have aa:=IW aa;have h:=G3 h;have ae:=AK ae;refine Aw (fun h5=>?_) fun h5=>?_
   ·(try simp only [BH] at h5)
    refine Ad ?_;refine AO (F4 t.z 5 h) ?_;rintro _ _ ⟨rfl,h,ga⟩;refine A4 fun g E=>?_;have aa:=DP aa;have ae:=DP ae;refine Ad ?_;refine Dx (Ej (some b4)) [0,3,0,1,3,2] [0,0,0,1,11,31] CG Ag [0,1,2,3,4,5] J ?_;refine OK fun g E=>?_;have aa:=aa.A (G.drew _);have h:=h.A (G.drew _);have ae:=ae.A (G.drew _);refine Bb 0 J J (fun w1 hx=>A8 A3 (Ab J) J (fun _=>(E.g2.C hx (fun q=>(E.ne 2 5 J J J) (by injection q))).row)) (As 1 J J (Bm J) (Bb 2 J J (fun w1 hx=>A8 Cf (Ab J) J (fun _=>(E.J.C hx (fun q=>(E.ne 0 5 J J J) (by injection q))).row)) (AW 3 J J ?_)));refine Bt (L':=[4,5]) [0,3,0,2,3,2] J J J ?_;refine AS fun _ ax Ca g E=>?_;first|have aa:=aa.af ax Ca rfl|have aa:=aa.C ax (by first|exact .inl O|simp)
    have h:=h.C ax Ca rfl O;have ae:=ae.C ax BR;refine Bs (ax) ?_;refine As 4 J J (fun _=>Fj (Ab J)) (AW 5 J J ?_);refine DN (L':=[]) [0,3,0,2,3,2] J J J J ?_;refine AS fun _ ga Ca g E=>?_;have aa:=IW aa;have h:=G3 h;have ae:=AK ae;refine DL ?_;refine Dt [0,3,4,5,6] ?_;refine AN ?_;have hm:(Ds ((Af F (Aa t 0)).rcv S).1.ty t.o).2.2=false:=by simpa using h5
    have e:FB F t (Av F t) S=((AF t [((Af F (Aa t 0)).rcv S).1] Az,(Ds ((Af F (Aa t 0)).rcv S).1.ty t.o).1,(Ds ((Af F (Aa t 0)).rcv S).1.ty t.o).2.1),AG (Ds ((Af F (Aa t 0)).rcv S).1.ty t.o).2.2 t.z 5 S):=by
     unfold FB;rw [BU h1,x0,h2];show ((AF t [(Gz t (Av F t) S).1] Az,(Ds (Gz t (Av F t) S).1.ty t.o).1,(Ds (Gz t (Av F t) S).1.ty t.o).2.1),AG (Ds (Gz t (Av F t) S).1.ty t.o).2.2 t.z 5 (Gz t (Av F t) S).2)=_;unfold Gz;rw [x0,Aq h3];rfl
    rw [e,hm];exact ⟨⟨_,_,rfl,BO (t:=AF t [_] Az) rfl (Ec (ks:=[_]) ⟨ba,DK E.U⟩ E.U.row (DG (ae.W cj)) (AA _)),aa.row⟩,h,g⟩
   refine Ad ?_;refine Dx (Ej (some b4)) [0,3,0,1,3,2] [0,0,0,1,11,31] CG Ag [0,1,2,3,4,5] J ?_;refine OK fun g E=>?_;have aa:=aa.A (G.drew _);have h:=h.A (G.drew _);have ae:=ae.A (G.drew _);refine Bb 0 J J (fun w1 hx=>A8 A3 (Ab J) J (fun _=>(E.g2.C hx (fun q=>(E.ne 2 5 J J J) (by injection q))).row)) (As 1 J J (Bm J) (Bb 2 J J (fun w1 hx=>A8 Cf (Ab J) J (fun _=>(E.J.C hx (fun q=>(E.ne 0 5 J J J) (by injection q))).row)) (AW 3 J J ?_)));refine Bt (L':=[4,5]) [0,3,0,2,3,2] J J J ?_;refine AS fun _ aw Ca g E=>?_;first|have aa:=aa.af aw Ca rfl|have aa:=aa.C aw (by first|exact .inl O|simp)
   have h:=h.C aw Ca rfl O;have ae:=ae.C aw BR;refine Bs (aw) ?_;refine As 4 J J (fun _=>Fj (Ab J)) (AW 5 J J ?_);refine DN (L':=[]) [0,3,0,2,3,2] J J J J ?_;refine AS fun _ ga Ca g E=>?_;have aa:=IW aa;have h:=G3 h;have ae:=AK ae;refine DL ?_;refine Dt [0,3,4,5,6] ?_;refine AN ?_;have hm:(Ds ((Af F (Aa t 0)).rcv S).1.ty t.o).2.2=true:=by simpa using h5
   have e:FB F t (Av F t) S=((AF t [((Af F (Aa t 0)).rcv S).1] Az,(Ds ((Af F (Aa t 0)).rcv S).1.ty t.o).1,(Ds ((Af F (Aa t 0)).rcv S).1.ty t.o).2.1),AG (Ds ((Af F (Aa t 0)).rcv S).1.ty t.o).2.2 t.z 5 S):=by
    unfold FB;rw [BU h1,x0,h2];show ((AF t [(Gz t (Av F t) S).1] Az,(Ds (Gz t (Av F t) S).1.ty t.o).1,(Ds (Gz t (Av F t) S).1.ty t.o).2.1),AG (Ds (Gz t (Av F t) S).1.ty t.o).2.2 t.z 5 (Gz t (Av F t) S).2)=_;unfold Gz;rw [x0,Aq h3];rfl
   rw [e,hm];exact ⟨⟨_,_,rfl,BO (t:=AF t [_] Az) rfl (Ec (ks:=[_]) ⟨ba,DK E.U⟩ E.U.row (DG (ae.W cj)) (AA _)),aa.row⟩,h,g⟩
  refine Aw (fun h6=>?_) fun h6=>?_
  ·exfalso;have:=AH h6;omega
   done
  have cb:t.k≠27:=by omega
  have bn:(Ac (t.k=28)&&((Av F t 0).rcv S).2)=false:=by rw [x0,h2,Bool.and_false]
  refine Ad ?_;refine AO (Dv.to (HX) [b3,b4,b6] h ah hb bs (E.Q Br) g.size) ?_;rintro _ _ ⟨⟨bk,bm,rfl,ar,ab⟩,h,ga⟩;refine A4 fun g E=>?_;refine A5 fun _ _ ga cu g E=>?_;have ab:=Bq ab;have h:=Ar h;refine AX fun _ ga Ca g E h=>?_;have ab:=AK ab;refine Aw (fun h7=>?_) fun h7=>?_
  ·have hy:BL ((Af F t).ex S).1.ty tFunc=false:=by have q:(!BL ((Af F t).ex S).1.ty tFunc)=true:=h7;rw [Bool.not_eq_true'] at q;exact q
   refine Ad ?_;refine AO (F4 t.z 7 h) ?_;rintro _ _ ⟨rfl,h,ga⟩;refine A4 fun g E=>?_;have ab:=DP ab;refine AX fun _ ga Ca g E h=>?_;have ab:=AK ab;refine AX fun _ ga Ca g E h=>?_;have ab:=AK ab;refine AN ?_
   have e:FB F t (Av F t) S=((((Af F t).ex S).1,[],Az),AG (BL ((Af F t).ex S).1.ty tFunc) t.z 7 ((Af F t).ex S).2):=by
    rw [a9];unfold FB;rw [bn,Aq cb];rfl
   rw [e,hy];exact ⟨⟨_,_,rfl,BO rfl (ab.W ar),GF (lo:=0) (X:=[]) |>.row⟩,h,g⟩
  have hy:BL ((Af F t).ex S).1.ty tFunc=true:=by have q:(!BL ((Af F t).ex S).1.ty tFunc)=false:=h7;rw [Bool.not_eq_false'] at q;exact q
  refine AX fun _ ga Ca g E h=>?_;have ab:=AK ab;refine AX fun _ ga Ca g E h=>?_;have ab:=AK ab;refine AN ?_
  have e:FB F t (Av F t) S=((((Af F t).ex S).1,[],Az),AG (BL ((Af F t).ex S).1.ty tFunc) t.z 7 ((Af F t).ex S).2):=by
   rw [a9];unfold FB;rw [bn,Aq cb];rfl
  rw [e,hy];exact ⟨⟨_,_,rfl,BO rfl (ab.W ar),GF (lo:=0) (X:=[]) |>.row⟩,h,g⟩
 have h1:t.k≠28:=CF h1;refine Aw (fun h8=>?_) fun h8=>?_
 ·have h8:t.k=27:=AH h8
  refine Ad ?_;refine AO (WM H t _ _ h hb O) ?_;rintro _ _ ⟨rfl,ga⟩;refine A4 fun g E=>?_;have h:=AV h;have ah:=AV ah;refine A5 fun bi _ ga _ g E=>?_;have h:=Ar h;have ah:=Ar ah;refine AX fun _ ga Ca g E h=>?_;have ah:=Co ah;refine Aw (fun h9=>?_) fun h9=>?_
  ·have h4:=mY h9
   obtain ⟨fv,sv,sn,h⟩:=h;have dh:=H.l4 h4;have b8:=H.lp h4;have di:=h.hF;have db:count (A9 F 4 t.o).1<count F:=MW (NT _ _ h4).1;have de:=HH (t:=(A9 F 4 t.o).1) (i:=0) O;have dk:=ED (Aa (A9 F 4 t.o).1 0);refine Ad ?_;refine Dx (Ej none) [3,3,3,0,3,0,1,3,3,3,1,2,3] [0,1,3,7,0,16,63,127,255,255,0,1535,4095] CG Ag [0,1,2,3,4,5,6,7,8,9,10,11,12] J ?_;refine Da fun g E h=>?_;refine As 0 J J (Bm J) (As 1 J J (fun _=>FZ (Ab J)) (As 2 J J (fun _=>AB OC (Ab J)) (Bb 3 J J (fun w1 hx=>A8 A3 (Ab J) J (fun _=>(h.B.C hx (by intro q;first|(injection q with q;omega)|cases q)).row.part 0 9)) (As 4 J J (fun _=>AB E2 (Ab J)) (Bb 5 J J (fun w1 hx=>AZ DW (Ab J) (fun _=>(E.g3.C hx DD).y J)) (Lx 6 10 J J ?_ ?_))))))
   ·refine Bt (L':=[7,8,9,10,11,12]) [3,3,3,0,3,0,1,3,3,3,1,2,3] rfl rfl rfl ?_
    refine AO (Lt F fv _ _ 4 t.o h.kF h.hF) ?_;rintro cn be ⟨⟨bu,bv,rfl,ad⟩,av⟩;refine ⟨fun _=>av,?_⟩;have g:=BZ g av;replace E:=E.A av;have h:=h.A (av);obtain ⟨m1,aq⟩:∃ m,m=be.heap.size:=⟨_,rfl⟩;have cr:b3<m1:=by rw [aq];exact E.g3.lt
    have cp:b4<m1:=by rw [aq];exact E.g2.lt
    have ck:b6<m1:=by rw [aq];exact E.U.lt
    have ch:bi<m1:=by rw [aq];exact E.J.lt
    have cq:w.heap.size≤m1:=by rw [aq];exact g.size
    have ac:m1≤be.heap.size:=E8 aq;refine Bs ((av).O _) ?_;refine As 7 J J (Bm J) (As 8 J J (fun _=>Gr (Ab J) J) (As 9 J J (fun _=>Gr (Ab J) J) (AW 10 J J ?_)));refine Bt (L':=[11,12]) [3,3,3,0,3,0,1,3,3,3,1,2,3] J J J ?_;refine A5 fun bp _ a4 da g E=>?_;have ad:=ad.A (a4.g);have ac:=Ao ac ((a4.g)).size;have h:=h.A (a4.g);refine Bs ((a4.g).O _) ?_;refine AW 11 J J ?_;refine DN (L':=[12]) [3,3,3,0,3,0,1,3,3,3,1,2,3] J J J J ?_;refine AS fun _ ga Ca g E=>?_;have ad:=Co ad;have ac:=Ao ac ga.size;have h:=G3 h;refine DL ?_;refine As 12 J J (fun _=>Fj (Ab J)) (Ke [(0,_,_),(3,_,_),(4,_,_),(5,_,_),(6,_,_),(13,_,_),(15,_,_)] Bp (FW (Al (Am (Au (Bj J (Ai (Al (Am (Am (Au (Bj J (Ai (Al (DF (?_))))))))))))))));have bb:=E.1
    refine GR (fun (x:Nat×Option Addr×Nat) u1=>match x with|⟨i,a,ca⟩=>(i≤(Aa (A9 F 4 t.o).1 0).j.length∧FS F n0 b S fv sv sn u1∧Bv u1 (fun k=>k<n0) (A9 F 4 t.o).1.j (.slice bu (A9 F 4 t.o).1.j.length bv)∧u1.ownsRow m1 24 2 (.slice a i ca) i ((((Aa (A9 F 4 t.o).1 0).j.map fun p=>(Bx (Aa p 0)).1).take i).flatMap Ek)∧m1≤u1.heap.size)∧AP DU n0 w u1) _ [(0,True,_),(3,True,_),(4,True,_),(5,True,_),(6,True,_),(13,True,_),(15,True,_)] (fun (x:Nat×Option Addr×Nat)=>match x with|⟨i,a,ca⟩=>[(17,True,.slice a i ca),(18,True,.int .i64 i)]) (fun (x:Nat×Option Addr×Nat)=>match x with|⟨i,a,ca⟩=>(Aa (A9 F 4 t.o).1 0).j.length-i) ((0,none,0)) ⟨⟨CC _,h,ad,J5 _ _ _ _,ac⟩,g⟩ (A6 (A7 E.g4) (A6 (A7 E.g3) (A6 (A7 E.g2) (A6 (A7 E.U) (A6 (A7 E.J) (Di _)))))) Bp ?_;clear E;rintro ⟨i,a,ca⟩ u1 ⟨bw,br⟩ ⟨B3,B4,B6,a6,a7,_⟩;replace B3:Ax _ _ _ _:=B3;replace B4:Ax _ _ _ _:=B4;replace B6:Ax _ _ _ _:=B6;replace a6:Ax _ _ _ _:=a6;replace a7:Ax _ _ _ _:=a7;have g:=br;obtain ⟨hi,h,ad,ov,ac⟩:=bw;obtain ⟨e0,p0,c0,ap,a3⟩:=Ba ad (i:=0) O;have E:=GX (L:=[(bp,_,_),(bi,_,_),(b6,_,_),(b4,_,_),(b3,_,_)]) bb ⟨a7,a6,B6,B4,B3,Cc⟩ rfl;refine Am (Am (Au (Ap J (AE AY J (AM Bh J (E.J.y J) (Dk AC J J O e0 (AE AY J (AM Bh J (ap.one (i:=4) J) (EI AC J (GG J J (Ai (Al (Cv J (fun ag=>?_) (fun ag=>?_))))))))))))))
    ·have ag:i<(Aa (A9 F 4 t.o).1 0).j.length:=by simp only [BM] at ag;omega
     obtain ⟨AU,p1,c1,ao,au⟩:=Ba a3 (i:=i) ag;have b0:=b8 _ (GN ag);rw [← Em ag] at b0;obtain ⟨e2,p2,c2,ay,b2⟩:=Ba au (i:=0) O;refine CJ (Al (Am (DF (Am (Au (AE AY J (AM Bh J (E.J.y J) (Dk AC J J O e0 (AE AY J (AM Bh J (ap.one (i:=4) J) (Ap J (Dk AC J J O AU (AE AY J (AM Bh J (ao.one (i:=4) J) (Dk AC J J O e2 (Ct A3 J J ay (?_)))))))))))))))));refine F0 J (BF U7 BX (Cn J CI) J) (NQ (Aa (Aa (Aa (A9 F 4 t.o).1 0) i) 0) _ _ _) (fun ce al=>?_);have g:=BZ g al;replace E:=E.A al;have ad:=ad.A (al);have ov:=Ef ov (al);have ac:=Ao ac ((al)).size;have h:=h.A (al);refine A5 fun _ _ ga dj g E=>?_;have bc:=fun k hk=>DQ (D4 (ov.lt k hk).2 ga.y.symm);have ad:=Ar ad;have ov:=Ef ov (ga.g);have ac:=Ao ac ((ga.g)).size;have h:=Ar h;refine AS fun _ ga Ca g E=>?_;have ad:=Co ad;have ac:=Ao ac ga.size;have ov:=Dg ov ga (.inr (fun q=>bc _ q rfl));have h:=G3 h;refine Ck fun _ _ am cy g E=>?_;have bg:=fun k hk=>DQ (D4 (ov.lt k hk).2 am.y.symm);have ad:=ad.A (am.g);have ov:=Ef ov (am.g);have ac:=Ao ac ((am.g)).size;have h:=h.A (am.g);refine Ja J Jb FF J BT (Ab J) ov (Ab J) J am.H.row J (by simp only [maxLen];omega) O ac ?_;intro a2 bf bh a5 aj bj;have an:=fun k hk=>(ov.lt k hk).1;have ac:=Ao ac aj.size;have g:=EQ g aj (fun k hk=>by have:=an k hk;omega)
     replace E:=E.C aj (Bu.2 ⟨((fun q=>bg _ q.symm rfl)),Bu.2 ⟨((fun q=>bc _ q.symm rfl)),Bu.2 ⟨((fun q=>DY ov E.g2 rfl q.symm)),Bu.2 ⟨((fun q=>by have:=an _ q.symm;omega)),Bu.2 ⟨((fun q=>by have:=an _ q.symm;omega)),Bu.2 ⟨((fun q=>by have:=an _ q.symm;omega)),Bu.2 ⟨((fun q=>by have:=an _ q.symm;omega)),Gq _⟩⟩⟩⟩⟩⟩⟩);have h:=h.ai aj (fun k hk=>⟨by have:=an k hk;omega,fun hT=>ZP ov k hk hT⟩);have ad:=ad.C aj (fun k hk _ e=>by have:=an k e.symm;omega)
     have b1:(((Aa (A9 F 4 t.o).1 0).j.map fun p=>(Bx (Aa p 0)).1).take i).flatMap Ek++Ek (Bx (Aa (Aa (Aa (A9 F 4 t.o).1 0) i) 0)).1=(((Aa (A9 F 4 t.o).1 0).j.map fun p=>(Bx (Aa p 0)).1).take (i+1)).flatMap Ek:=by
      rw [Jz (show i<((Aa (A9 F 4 t.o).1 0).j.map fun p=>(Bx (Aa p 0)).1).length by rw [Cq];exact ag),Kh,List.getElem_map,← Em ag];simp
     have a5:bh.ownsRow m1 24 2 (.slice a2 (i+1) bf) (i+1) ((((Aa (A9 F 4 t.o).1 0).j.map fun p=>(Bx (Aa p 0)).1).take (i+1)).flatMap Ek):=b1▸a5;refine Ad ?_;refine Ci [17,18,0,3,4,5,6,13,15] ?_;refine Ai (fun a ha=>?_);exact ⟨(i+1,a2,bf),ha,⟨⟨ag,h,ad,a5,ac⟩,g⟩,(A6 (A7 E.g6) (A6 (A7 E.g5) (A6 (A7 E.g4) (A6 (A7 E.g3) (A6 (A7 E.g2) (Di _)))))),by show _-(i+1)<_-i;omega⟩
    have ag:i=(Aa (A9 F 4 t.o).1 0).j.length:=by simp only [CB] at ag;omega
    subst ag;refine Ad ?_;obtain ⟨AU,p1,c1,ao,au⟩:=Ba ad (i:=1) O;have bo:(Aa (A9 F 4 t.o).1 0).j.length=((Aa (A9 F 4 t.o).1 0).j.map fun p=>(Bx (Aa p 0)).1).length:=by rw [Cq]
    have aa:Gd m1 [] _ ((Aa (A9 F 4 t.o).1 0).j.map fun p=>(Bx (Aa p 0)).1) (.slice a ((Aa (A9 F 4 t.o).1 0).j.map fun p=>(Bx (Aa p 0)).1).length ca):=iF (by have q:=ov;rw [show (Aa (A9 F 4 t.o).1 0).j.length=((Aa (A9 F 4 t.o).1 0).j.map fun p=>(Bx (Aa p 0)).1).length by rw [Cq],GZ] at q;exact q);refine Ad ?_;refine DI (NQ (Aa (A9 F 4 t.o).1 1) _ _ _) (fun ci ak=>?_);have g:=BZ g ak;replace E:=E.A ak;have aa:=aa.A (ak);have ov:=Ef ov (ak);have ac:=Ao ac ((ak)).size;have h:=h.A (ak);refine A5 fun _ _ ga dc g E=>?_;have aa:=Bq aa;have bq:=fun k hk=>DQ (D4 (ov.lt k hk).2 ga.y.symm);have ov:=Ef ov (ga.g);have ac:=Ao ac ((ga.g)).size;have h:=Ar h;refine AS fun _ ga Ca g E=>?_;have aa:=IW aa;have ac:=Ao ac ga.size;have ov:=Dg ov ga (.inr (fun q=>bq _ q rfl));have h:=G3 h;refine Ad ?_;refine Dx (Ej (some b4)) [0,3,0,1,3,2] [0,0,0,1,11,31] CG Ag [0,1,2,3,4,5] J ?_;refine OK fun g E=>?_;have aa:=aa.A (G.drew _);have ov:=Ef ov (G.drew _);have ac:=Ao ac ((G.drew _)).size;have h:=h.A (G.drew _);refine Bb 0 J J (fun w1 hx=>A8 A3 (Ab J) J (fun _=>(E.g2.C hx (fun h=>E.ne 2 4 J J J (EM h))).row)) (As 1 J J (Bm J) (Bb 2 J J (fun w1 hx=>A8 Cf (Ab J) J (fun _=>(E.J.C hx (fun h=>E.ne 0 4 J J J (EM h))).row)) (AW 3 J J ?_)));refine Bt (L':=[4,5]) [0,3,0,2,3,2] J J J ?_;refine AS fun _ ai Ca g E=>?_;first|have aa:=aa.af ai Ca rfl|have aa:=aa.C ai (by first|exact .inl O|simp)
    have ac:=Ao ac ai.size;have h:=h.C ai Ca rfl O;refine Bs (ai) ?_;refine As 4 J J (fun _=>Fj (Ab J)) (AW 5 J J ?_);refine DN (L':=[]) [0,3,0,2,3,2] J J J J ?_;refine AS fun _ ga Ca g E=>?_;have aa:=IW aa;have ac:=Ao ac ga.size;have h:=G3 h;refine DL ?_;refine Dt [0,3,4,5,6,13,15,17,21,129,130,131,132,133,134,135,136,137,138,139] ?_;refine AN ?_
    have e:FB F t (Av F t) S=(((Cx F S t).1,((Aa (A9 F 4 t.o).1 0).j.map fun p=>(Bx (Aa p 0)).1),(Bx (Aa (A9 F 4 t.o).1 1)).1),S):=by
     unfold FB;rw [Aq h1,BU h8,h9];rfl
    rw [e];exact ⟨⟨_,_,rfl,BO (t:=(Cx F S t).1) rfl (PN _ _),by have q:=aa.row;rw [← bo] at q;exact q⟩,h.ah,g⟩
   ·refine Bt (L':=[6,7,8,9,11,12]) [3,3,3,0,3,0,1,3,3,3,1,2,3] rfl rfl rfl ?_
    refine A5 fun bp _ a4 _ g E=>?_;have h:=h.A (a4.g);refine Bs ((a4.g).O _) ?_;refine AW 6 J J ?_;refine Bt (L':=[7,8,9,11,12]) [3,3,3,0,3,0,1,3,3,3,1,2,3] J J J ?_;refine AO (Lt F fv _ _ 4 t.o h.kF h.hF) ?_;rintro cn be ⟨⟨bu,bv,rfl,ad⟩,av⟩;refine ⟨fun _=>av,?_⟩;have g:=BZ g av;replace E:=E.A av;have h:=h.A (av);obtain ⟨m1,aq⟩:∃ m,m=be.heap.size:=⟨_,rfl⟩;have cr:b3<m1:=by rw [aq];exact E.g4.lt
    have cp:b4<m1:=by rw [aq];exact E.g3.lt
    have ck:b6<m1:=by rw [aq];exact E.g2.lt
    have ch:bi<m1:=by rw [aq];exact E.U.lt
    have cq:w.heap.size≤m1:=by rw [aq];exact g.size
    have ac:m1≤be.heap.size:=E8 aq;refine Bs ((av).O _) ?_;refine As 7 J J (Bm J) (As 8 J J (fun _=>Gr (Ab J) J) (As 9 J J (fun _=>Gr (Ab J) J) (AW 11 J J ?_)));refine DN (L':=[12]) [3,3,3,0,3,0,1,3,3,3,1,2,3] J J J J ?_;refine AS fun _ ga Ca g E=>?_;have ad:=Co ad;have ac:=Ao ac ga.size;have h:=G3 h;refine DL ?_;refine As 12 J J (fun _=>Fj (Ab J)) (Ke [(0,_,_),(3,_,_),(4,_,_),(5,_,_),(6,_,_),(13,_,_),(15,_,_)] Bp (FW (Al (Am (Au (Bj J (Ai (Al (Am (Am (Au (Bj J (Ai (Al (DF (?_))))))))))))))));have bb:=E.1;refine GR (fun (x:Nat×Option Addr×Nat) u1=>match x with|⟨i,a,ca⟩=>(i≤(Aa (A9 F 4 t.o).1 0).j.length∧FS F n0 b S fv sv sn u1∧Bv u1 (fun k=>k<n0) (A9 F 4 t.o).1.j (.slice bu (A9 F 4 t.o).1.j.length bv)∧u1.ownsRow m1 24 2 (.slice a i ca) i ((((Aa (A9 F 4 t.o).1 0).j.map fun p=>(Bx (Aa p 0)).1).take i).flatMap Ek)∧m1≤u1.heap.size)∧AP DU n0 w u1) _ [(0,True,_),(3,True,_),(4,True,_),(5,True,_),(6,True,_),(13,True,_),(15,True,_)] (fun (x:Nat×Option Addr×Nat)=>match x with|⟨i,a,ca⟩=>[(17,True,.slice a i ca),(18,True,.int .i64 i)]) (fun (x:Nat×Option Addr×Nat)=>match x with|⟨i,a,ca⟩=>(Aa (A9 F 4 t.o).1 0).j.length-i) ((0,none,0)) ⟨⟨CC _,h,ad,J5 _ _ _ _,ac⟩,g⟩ (A6 (A7 E.g4) (A6 (A7 E.g3) (A6 (A7 E.g2) (A6 (A7 E.U) (A6 (A7 E.J) (Di _)))))) Bp ?_;clear E;rintro ⟨i,a,ca⟩ u1 ⟨bw,br⟩ ⟨B3,B4,B6,a6,a7,_⟩;replace B3:Ax _ _ _ _:=B3;replace B4:Ax _ _ _ _:=B4
    replace B6:Ax _ _ _ _:=B6;replace a6:Ax _ _ _ _:=a6;replace a7:Ax _ _ _ _:=a7;have g:=br;obtain ⟨hi,h,ad,ov,ac⟩:=bw;obtain ⟨e0,p0,c0,ap,a3⟩:=Ba ad (i:=0) O;have E:=GX (L:=[(bp,_,_),(bi,_,_),(b6,_,_),(b4,_,_),(b3,_,_)]) bb ⟨a7,a6,B6,B4,B3,Cc⟩ rfl;refine Am (Am (Au (Ap J (AE AY J (AM Bh J (E.J.y J) (Dk AC J J O e0 (AE AY J (AM Bh J (ap.one (i:=4) J) (EI AC J (GG J J (Ai (Al (Cv J (fun ag=>?_) (fun ag=>?_))))))))))))))
    ·have ag:i<(Aa (A9 F 4 t.o).1 0).j.length:=by simp only [BM] at ag;omega
     obtain ⟨AU,p1,c1,ao,au⟩:=Ba a3 (i:=i) ag;have b0:=b8 _ (GN ag);rw [← Em ag] at b0;obtain ⟨e2,p2,c2,ay,b2⟩:=Ba au (i:=0) O;refine CJ (Al (Am (DF (Am (Au (AE AY J (AM Bh J (E.J.y J) (Dk AC J J O e0 (AE AY J (AM Bh J (ap.one (i:=4) J) (Ap J (Dk AC J J O AU (AE AY J (AM Bh J (ao.one (i:=4) J) (Dk AC J J O e2 (Ct A3 J J ay (?_)))))))))))))))));refine F0 J (BF U7 BX (Cn J CI) J) (NQ (Aa (Aa (Aa (A9 F 4 t.o).1 0) i) 0) _ _ _) (fun ce al=>?_);have g:=BZ g al;replace E:=E.A al;have ad:=ad.A (al);have ov:=Ef ov (al);have ac:=Ao ac ((al)).size;have h:=h.A (al);refine A5 fun _ _ ga _ g E=>?_;have bc:=fun k hk=>DQ (D4 (ov.lt k hk).2 ga.y.symm);have ad:=Ar ad;have ov:=Ef ov (ga.g);have ac:=Ao ac ((ga.g)).size;have h:=Ar h;refine AS fun _ ga Ca g E=>?_;have ad:=Co ad;have ac:=Ao ac ga.size;have ov:=Dg ov ga (.inr (fun q=>bc _ q rfl));have h:=G3 h;refine Ck fun _ _ am _ g E=>?_;have bg:=fun k hk=>DQ (D4 (ov.lt k hk).2 am.y.symm);have ad:=ad.A (am.g);have ov:=Ef ov (am.g);have ac:=Ao ac ((am.g)).size;have h:=h.A (am.g);refine Ja J Jb FF J BT (Ab J) ov (Ab J) J am.H.row J (by simp only [maxLen];omega) O ac ?_;intro a2 bf bh a5 aj bj;have an:=fun k hk=>(ov.lt k hk).1;have ac:=Ao ac aj.size;have g:=EQ g aj (fun k hk=>by have:=an k hk;omega)
     replace E:=E.C aj (Bu.2 ⟨((fun q=>bg _ q.symm rfl)),Bu.2 ⟨((fun q=>bc _ q.symm rfl)),Bu.2 ⟨((fun q=>DY ov E.g2 rfl q.symm)),Bu.2 ⟨((fun q=>by have:=an _ q.symm;omega)),Bu.2 ⟨((fun q=>by have:=an _ q.symm;omega)),Bu.2 ⟨((fun q=>by have:=an _ q.symm;omega)),Bu.2 ⟨((fun q=>by have:=an _ q.symm;omega)),Gq _⟩⟩⟩⟩⟩⟩⟩);have h:=h.ai aj (fun k hk=>⟨by have:=an k hk;omega,fun hT=>ZP ov k hk hT⟩);have ad:=ad.C aj (fun k hk _ e=>by have:=an k e.symm;omega)
     have b1:(((Aa (A9 F 4 t.o).1 0).j.map fun p=>(Bx (Aa p 0)).1).take i).flatMap Ek++Ek (Bx (Aa (Aa (Aa (A9 F 4 t.o).1 0) i) 0)).1=(((Aa (A9 F 4 t.o).1 0).j.map fun p=>(Bx (Aa p 0)).1).take (i+1)).flatMap Ek:=by
      rw [Jz (show i<((Aa (A9 F 4 t.o).1 0).j.map fun p=>(Bx (Aa p 0)).1).length by rw [Cq];exact ag),Kh,List.getElem_map,← Em ag];simp
     have a5:bh.ownsRow m1 24 2 (.slice a2 (i+1) bf) (i+1) ((((Aa (A9 F 4 t.o).1 0).j.map fun p=>(Bx (Aa p 0)).1).take (i+1)).flatMap Ek):=b1▸a5;refine Ad ?_;refine Ci [17,18,0,3,4,5,6,13,15] ?_;refine Ai (fun a ha=>?_);exact ⟨(i+1,a2,bf),ha,⟨⟨ag,h,ad,a5,ac⟩,g⟩,(A6 (A7 E.g6) (A6 (A7 E.g5) (A6 (A7 E.g4) (A6 (A7 E.g3) (A6 (A7 E.g2) (Di _)))))),by show _-(i+1)<_-i;omega⟩
    have ag:i=(Aa (A9 F 4 t.o).1 0).j.length:=by simp only [CB] at ag;omega
    subst ag;refine Ad ?_;obtain ⟨AU,p1,c1,ao,au⟩:=Ba ad (i:=1) O;have bo:(Aa (A9 F 4 t.o).1 0).j.length=((Aa (A9 F 4 t.o).1 0).j.map fun p=>(Bx (Aa p 0)).1).length:=by rw [Cq]
    have aa:Gd m1 [] _ ((Aa (A9 F 4 t.o).1 0).j.map fun p=>(Bx (Aa p 0)).1) (.slice a ((Aa (A9 F 4 t.o).1 0).j.map fun p=>(Bx (Aa p 0)).1).length ca):=iF (by have q:=ov;rw [show (Aa (A9 F 4 t.o).1 0).j.length=((Aa (A9 F 4 t.o).1 0).j.map fun p=>(Bx (Aa p 0)).1).length by rw [Cq],GZ] at q;exact q);refine Ad ?_;refine DI (NQ (Aa (A9 F 4 t.o).1 1) _ _ _) (fun ci ak=>?_);have g:=BZ g ak;replace E:=E.A ak;have aa:=aa.A (ak);have ov:=Ef ov (ak);have ac:=Ao ac ((ak)).size;have h:=h.A (ak);refine A5 fun _ _ ga _ g E=>?_;have aa:=Bq aa;have bq:=fun k hk=>DQ (D4 (ov.lt k hk).2 ga.y.symm);have ov:=Ef ov (ga.g);have ac:=Ao ac ((ga.g)).size;have h:=Ar h;refine AS fun _ ga Ca g E=>?_;have aa:=IW aa;have ac:=Ao ac ga.size;have ov:=Dg ov ga (.inr (fun q=>bq _ q rfl));have h:=G3 h;refine Ad ?_;refine Dx (Ej (some b4)) [0,3,0,1,3,2] [0,0,0,1,11,31] CG Ag [0,1,2,3,4,5] J ?_;refine OK fun g E=>?_;have aa:=aa.A (G.drew _);have ov:=Ef ov (G.drew _);have ac:=Ao ac ((G.drew _)).size;have h:=h.A (G.drew _);refine Bb 0 J J (fun w1 hx=>A8 A3 (Ab J) J (fun _=>(E.g2.C hx (fun h=>E.ne 2 4 J J J (EM h))).row)) (As 1 J J (Bm J) (Bb 2 J J (fun w1 hx=>A8 Cf (Ab J) J (fun _=>(E.J.C hx (fun h=>E.ne 0 4 J J J (EM h))).row)) (AW 3 J J ?_)));refine Bt (L':=[4,5]) [0,3,0,2,3,2] J J J ?_;refine AS fun _ ai Ca g E=>?_;first|have aa:=aa.af ai Ca rfl|have aa:=aa.C ai (by first|exact .inl O|simp)
    have ac:=Ao ac ai.size;have h:=h.C ai Ca rfl O;refine Bs (ai) ?_;refine As 4 J J (fun _=>Fj (Ab J)) (AW 5 J J ?_);refine DN (L':=[]) [0,3,0,2,3,2] J J J J ?_;refine AS fun _ ga Ca g E=>?_;have aa:=IW aa;have ac:=Ao ac ga.size;have h:=G3 h;refine DL ?_;refine Dt [0,3,4,5,6,13,15,17,21,129,130,131,132,133,134,135,136,137,138,139] ?_;refine AN ?_
    have e:FB F t (Av F t) S=(((Cx F S t).1,((Aa (A9 F 4 t.o).1 0).j.map fun p=>(Bx (Aa p 0)).1),(Bx (Aa (A9 F 4 t.o).1 1)).1),S):=by
     unfold FB;rw [Aq h1,BU h8,h9];rfl
    rw [e];exact ⟨⟨_,_,rfl,BO (t:=(Cx F S t).1) rfl (PN _ _),by have q:=aa.row;rw [← bo] at q;exact q⟩,h.ah,g⟩
  refine Ad ?_;refine AO (Dv.to (HX) [b3,b4,b6] h ah hb bs (E.Q Br) g.size) ?_;rintro _ _ ⟨⟨bk,bm,rfl,ar,ab⟩,h,ga⟩;refine A4 fun g E=>?_;refine A5 fun _ _ ga cu g E=>?_;have ab:=Bq ab;have h:=Ar h;refine AX fun _ ga Ca g E h=>?_;have ab:=AK ab;refine Aw (fun bt=>?_) fun bt=>?_
  ·have hy:BL ((Af F t).ex S).1.ty tFunc=false:=by have q:(!BL ((Af F t).ex S).1.ty tFunc)=true:=bt;rw [Bool.not_eq_true'] at q;exact q
   refine Ad ?_;refine AO (F4 t.z 7 h) ?_;rintro _ _ ⟨rfl,h,ga⟩;refine A4 fun g E=>?_;have ab:=DP ab;refine AX fun _ ga Ca g E h=>?_;have ab:=AK ab;refine AX fun _ ga Ca g E h=>?_;have ab:=AK ab;refine AN ?_
   have e:FB F t (Av F t) S=((((Af F t).ex S).1,[],Az),AG (BL ((Af F t).ex S).1.ty tFunc) t.z 7 ((Af F t).ex S).2):=by
    rw [a9];unfold FB;rw [Aq h1,BU h8,h9];rfl
   rw [e,hy];exact ⟨⟨_,_,rfl,BO rfl (ab.W ar),GF (lo:=0) (X:=[]) |>.row⟩,h,g⟩
  have hy:BL ((Af F t).ex S).1.ty tFunc=true:=by have q:(!BL ((Af F t).ex S).1.ty tFunc)=false:=bt;rw [Bool.not_eq_false'] at q;exact q
  refine AX fun _ ga Ca g E h=>?_;have ab:=AK ab;refine AX fun _ ga Ca g E h=>?_;have ab:=AK ab;refine AN ?_
  have e:FB F t (Av F t) S=((((Af F t).ex S).1,[],Az),AG (BL ((Af F t).ex S).1.ty tFunc) t.z 7 ((Af F t).ex S).2):=by
   rw [a9];unfold FB;rw [Aq h1,BU h8,h9];rfl
  rw [e,hy];exact ⟨⟨_,_,rfl,BO rfl (ab.W ar),GF (lo:=0) (X:=[]) |>.row⟩,h,g⟩
 have h8:t.k≠27:=CF h8;refine Ad ?_;refine AO (Dv.to (HX) [b3,b4,b6] h ah hb bs (E.Q Br) g.size) ?_;rintro _ _ ⟨⟨bk,bm,rfl,ar,ab⟩,h,ga⟩;refine A4 fun g E=>?_;refine A5 fun _ _ ga _ g E=>?_;have ab:=Bq ab;have h:=Ar h;refine AX fun _ ga Ca g E h=>?_;have ab:=AK ab;refine Aw (fun bz=>?_) fun bz=>?_
 ·have hy:BL ((Af F t).ex S).1.ty tFunc=false:=by have q:(!BL ((Af F t).ex S).1.ty tFunc)=true:=bz;rw [Bool.not_eq_true'] at q;exact q
  refine Ad ?_;refine AO (F4 t.z 7 h) ?_;rintro _ _ ⟨rfl,h,ga⟩;refine A4 fun g E=>?_;have ab:=DP ab;refine AX fun _ ga Ca g E h=>?_;have ab:=AK ab;refine AX fun _ ga Ca g E h=>?_;have ab:=AK ab;refine AN ?_
  have e:FB F t (Av F t) S=((((Af F t).ex S).1,[],Az),AG (BL ((Af F t).ex S).1.ty tFunc) t.z 7 ((Af F t).ex S).2):=by
   rw [a9];unfold FB;rw [Aq h1,Aq h8];rfl
  rw [e,hy];exact ⟨⟨_,_,rfl,BO rfl (ab.W ar),GF (lo:=0) (X:=[]) |>.row⟩,h,g⟩
 have hy:BL ((Af F t).ex S).1.ty tFunc=true:=by have q:(!BL ((Af F t).ex S).1.ty tFunc)=false:=bz;rw [Bool.not_eq_false'] at q;exact q
 refine AX fun _ ga Ca g E h=>?_;have ab:=AK ab;refine AX fun _ ga Ca g E h=>?_;have ab:=AK ab;refine AN ?_
 have e:FB F t (Av F t) S=((((Af F t).ex S).1,[],Az),AG (BL ((Af F t).ex S).1.ty tFunc) t.z 7 ((Af F t).ex S).2):=by
  rw [a9];unfold FB;rw [Aq h1,Aq h8];rfl
 rw [e,hy];exact ⟨⟨_,_,rfl,BO rfl (ab.W ar),GF (lo:=0) (X:=[]) |>.row⟩,h,g⟩
set_option maxHeartbeats 4000000
theorem Dp.new{X:List Nat}{lo b:Nat}{w w':Ae}{ks:List Nd}{s:AJ}{e:AD}{l:List AJ}(h:Dp X lo w ks s)(N:Ki w w' b e l):Dp (b::X) lo w' ks s:=by
 have:=N.y
 exact Qg h (fun k hk aa=>⟨⟨hk.1.1,fun hm=>by
  rcases Dr.1 hm with q|q;omega;exact hk.1.2 q⟩,hk.2.A N.g⟩) (fun k _ aa=>N.g.block aa) fun xs h=>Ef h N.g
theorem Dp.sub{X Y:List Nat}{lo:Nat}{w:Ae}{ks:List Nd}{s:AJ}(h:Dp X lo w ks s)(hs:∀ b∈Y,b∈X):Dp Y lo w ks s :=
 Qg h (fun k hk _=>⟨⟨hk.1.1,fun hm=>hk.1.2 (hs k hm)⟩,hk.2⟩) (fun _ _ _=>rfl) fun xs h=>h
theorem Gd.ax{lo:Nat}{X:List Nat}{w:Ae}{l:List Bo}{v:AJ}(h:Gd lo X w l v):Gd 0 [] w l v:=h.row.x
theorem Xp{lo:Nat}{X:List Nat}{w:Ae}{l:List Bo}{p:Option Addr}{c:Nat}(h:Gd lo X w l (.slice p l.length c)){i:Nat}(hi:i<l.length):p=some ⟨E5 p,Gu p,none⟩∧CQ w (E5 p) (Gu p+i*2) (Ek l[i]):=by
 obtain ⟨p',c',hv,h⟩:=h;injection hv with AU _ e2;subst AU;obtain ⟨b,o,cs,fr,rfl,_,_,hR⟩:=h O;exact ⟨rfl,OQ (f:=Ek) (z:=2) SF hR hi⟩
theorem aC{lo:Nat}{X:List Nat}{w:Ae}{l:List Bo}{p:Option Addr}{c:Nat}(h:Gd lo X w l (.slice p l.length c)){i:Nat}(hi:i<l.length):CQ w (E5 p) (Gu p+i*2) (Ek (l.getD i Az)):=by
 rw [List.getD_eq_getElem?_getD,Ei hi];exact (Xp h hi).2
theorem QX.to{F t:Nd}(H:QX F t){n0 b:Nat}{S:Ak}{w:Ae}{v:AJ}{N m0:Nat}(Z:List Nat)(h:D5 F n0 b S w)(hk:Bv w (fun k=>k<n0) t.j v)(hb:EO S N)(hc:N+count t≤1000000)(hZ:∀ j∈Z,j<w.heap.size)(hm:m0≤w.heap.size) :
 Bz An 162 #[.pointer (some ⟨b,0,none⟩),Cd t v] w fun r w'=>(∃ p c pl cl,r = .tuple #[Cd ((Af F t).K S).1.1 (.slice p ((Af F t).K S).1.1.j.length c),.slice pl ((Af F t).K S).1.2.1.length cl,D7 ((Af F t).K S).1.2.2]∧m0≤w.heap.size∧EP w.heap.size Z w' ((Af F t).K S).1.1.j (.slice p ((Af F t).K S).1.1.j.length c)∧Gd 0 [] w' ((Af F t).K S).1.2.1 (.slice pl ((Af F t).K S).1.2.1.length cl))∧D5 F n0 b ((Af F t).K S).2 w'∧AP DU n0 w w' :=
 (H h hk hb hc).mono fun r w' hr=>by
 obtain ⟨⟨u,l,e,⟨p,c,e2,k⟩,hl⟩,h1,h2⟩:=hr;subst e2;obtain ⟨pl,cl,rfl,_⟩:=id hl;exact ⟨⟨p,c,pl,cl,e,hm,Gb.x k hZ,hl.x⟩,h1,h2⟩
theorem Qm(t:Nd)(x:Nat→FQ)(ps:List Bo)(S:Ak):∀ i,(Ed t x ps S i).1.length=i
 | 0=>rfl
 | i+1=>by
  show ((Ed t x ps S i).1++[_]).length=_;rw [E6,Qm t x ps S i];rfl
theorem xJ{F t:Nd}(K:∀ i,i<t.j.length→KP F (Aa t i))(a5:t.k=30)(hx:BN t=true):Dv F 146 t (Jf t (Av F t)):=by
 intro n0 b S w v N h ao hb b0;obtain ⟨hl,al⟩:=WW a5 hx;have x0:Av F t 0=Af F (Aa t 0):=Dq O;obtain ⟨p,c,rfl,_⟩:=id ao;have aa:=ao;have aj:=h.lt;have b9:=ED t;have he:BN (Aa t 0)=true:=Hz al O;have Q0:=K 0 O;have b2:CU t 1=DT t 0:=by show 0+DT t 0=_;omega
 have ce:=IK t 1;have bv:DT t 0=count (Aa t 0):=It O
 have a9:BW (CU t 1) S (AG (Ac ((t.j.length:Int)-1=(((Af F (Aa t 0)).K S).1.2.1.length:Nat))) t.z 7 ((Af F (Aa t 0)).K S).2):=by
  have q:=((EG F (Aa t 0)).K S).I (Ac ((t.j.length:Int)-1=(((Af F (Aa t 0)).K S).1.2.1.length:Nat))) t.z 7;exact q.mono O
 have a2:∀ i,BW (CU t (i+1)) S (Ed t (Av F t) ((Af F (Aa t 0)).K S).1.2.1 (AG (Ac ((t.j.length:Int)-1=(((Af F (Aa t 0)).K S).1.2.1.length:Nat))) t.z 7 ((Af F (Aa t 0)).K S).2) i).2:=fun i=>Um (NF F t) ((Af F (Aa t 0)).K S).1.2.1 a9 i;have g:=AP.refl DU n0 w;refine Cu 84 [0,1] Tryz.func146 ?_;refine CT fun b3 _ ga _ g E=>?_;have h:=Ar h;have aa:=Ar aa;refine A5 fun b4 _ ga _ g E=>?_;have h:=Ar h;have aa:=Ar aa;refine Ad ?_;refine AO (Is t _ _ _) ?_;rintro _ _ ⟨rfl,ga⟩;refine A4 fun g E=>?_;have h:=AV h;have aa:=AV aa;refine A5 fun b5 _ ga _ g E=>?_;have h:=Ar h;have aa:=Ar aa;refine AX fun _ ga Ca g E h=>?_;have aa:=Co aa;obtain ⟨hpe,bu,bt,hcell,ah⟩:=Ba aa (i:=0) O;refine Ad ?_;refine AO (QX.to (Q0.K he) [b3,b4,b5] h ah hb O (E.Q Br) g.size) ?_;rintro _ _ ⟨⟨b1,cd,pl,cl,rfl,cb,ai,hr⟩,h,ga⟩;refine A4 fun g E=>?_;have aa:=F2 aa;refine A5 fun b6 _ ga _ g E=>?_;have hr:=Bq hr;have ai:=Bq ai;have h:=Ar h;have aa:=Ar aa;refine A5 fun b8 _ ga _ g E=>?_;have hr:=Bq hr;have ai:=Bq ai;have h:=Ar h;have aa:=Ar aa;refine AS fun _ ga Ca g E=>?_;have hr:=IW hr;have h:=G3 h;have aa:=Co aa;have ai:=AK ai;refine AS fun _ ga Ca g E=>?_;have hr:=IW hr;have h:=G3 h;have aa:=Co aa;have ai:=AK ai;refine Ad ?_;skip;refine Ad ?_;refine Fe _ J AC Cp (Bk J CH) J J ?_;intro br b7 af;have a8:=Dw af g.size;have hr:=hr.new af;have ai:=ai.new af;have a4:=af.H;have bp:=af.ne E.g4;have bm:=af.ne E.g3;have bo:=af.ne E.g2;have bh:=af.ne E.U;have bk:=af.ne E.J;have g:=BZ g af.g;replace E:=E.A af.g
 have h:=h.A (af.g);have aa:=aa.A (af.g);have hO:Dp [b3,b4,b5,b6,b8] w.heap.size _ [((Af F (Aa t 0)).K S).1.1] (.slice (some ⟨br,0,none⟩) 1 1):=MM a4 a8 (ai.mono fun k hk _=>⟨⟨⟨by have:=hk.1.1;omega,by have:=hk.1.2;simp at this ⊢;omega⟩,hk.2⟩,by have:=hk.1.2;simp at this;omega⟩) ⟨⟨a8,by simp;omega⟩,DK a4⟩;refine AS fun _ ga Ca g E=>?_;have hr:=IW hr;have h:=G3 h;have aa:=Co aa;have hO:=DO hO;refine Aw (fun h1=>?_) fun h1=>?_;have hq:Ac ((t.j.length:Int)-1=(((Af F (Aa t 0)).K S).1.2.1.length:Nat))=false:=by simpa using h1
 refine Ad ?_;refine AO (F4 t.z 7 h) ?_;rintro _ _ ⟨rfl,h,ga⟩;refine A4 fun g E=>?_;have hr:=DP hr;have aa:=F2 aa;have hO:=hO.gt ga rfl;have eS:DV t.z 7 ((Af F (Aa t 0)).K S).2=(AG (Ac ((t.j.length:Int)-1=(((Af F (Aa t 0)).K S).1.2.1.length:Nat))) t.z 7 ((Af F (Aa t 0)).K S).2):=by rw [hq];rfl
 rw [eS] at h;refine Ad ?_;have az:=E.1;refine GR (fun (i:Nat) u1=>(i+1≤t.j.length∧D5 F n0 b (Ed t (Av F t) ((Af F (Aa t 0)).K S).1.2.1 (AG (Ac ((t.j.length:Int)-1=(((Af F (Aa t 0)).K S).1.2.1.length:Nat))) t.z 7 ((Af F (Aa t 0)).K S).2) i).2 u1∧Gd 0 [] u1 ((Af F (Aa t 0)).K S).1.2.1 (.slice pl ((Af F (Aa t 0)).K S).1.2.1.length cl)∧∃ s,Ax u1 b5 26 (De (DJ t) s)∧Dp [b3,b4,b5,b6,b8] w.heap.size u1 (((Af F (Aa t 0)).K S).1.1::(Ed t (Av F t) ((Af F (Aa t 0)).K S).1.2.1 (AG (Ac ((t.j.length:Int)-1=(((Af F (Aa t 0)).K S).1.2.1.length:Nat))) t.z 7 ((Af F (Aa t 0)).K S).2) i).1) s)∧AP DU n0 w u1) _ [(0,True,_),(3,True,_),(4,True,_),(5,True,_),(7,True,_),(8,True,_)] (fun (i:Nat)=>[(9,True,.int .i64 ((i+1:Nat):Int))]) (fun (i:Nat)=>t.j.length-i) (0) ⟨⟨hl,h,hr.ax,_,E.g2,hO.sub DZ⟩,g⟩ (A6 (A7 E.g4) (A6 (A7 E.g3) (A6 (A7 E.U) (A6 (A7 E.J) (Di _))))) Bp ?_;clear E;rintro i u1 ⟨bj,a3⟩ ⟨B3,B4,B6,B8,_⟩;replace B3:Ax _ _ _ _:=B3;replace B4:Ax _ _ _ _:=B4;replace B6:Ax _ _ _ _:=B6;replace B8:Ax _ _ _ _:=B8;have g:=a3;obtain ⟨hi,h,hr,s,B5,hO⟩:=bj;obtain ⟨sa,sc,rfl⟩:=hO.slice;have aa:=ao.gt a3 (fun k h=>h);have ba:(((Af F (Aa t 0)).K S).1.1::(Ed t (Av F t) ((Af F (Aa t 0)).K S).1.2.1 (AG (Ac ((t.j.length:Int)-1=(((Af F (Aa t 0)).K S).1.2.1.length:Nat))) t.z 7 ((Af F (Aa t 0)).K S).2) i).1).length=i+1:=by rw [List.length_cons,Qm]
 have bq:=Qm t (Av F t) ((Af F (Aa t 0)).K S).1.2.1 (AG (Ac ((t.j.length:Int)-1=(((Af F (Aa t 0)).K S).1.2.1.length:Nat))) t.z 7 ((Af F (Aa t 0)).K S).2) i;have E:=GX (L:=[(b8,_,_),(b6,_,_),(b5,_,_),(b4,_,_),(b3,_,_)]) az ⟨B8,B6,B5,B4,B3,Cc⟩ rfl;refine Aw (fun h2=>?_) fun h2=>?_;have h2:i+1<t.j.length:=by simp only [BM] at h2;omega
 have am:=h2;obtain ⟨e0,p1,c1,hcell,ah⟩:=Ba aa (i:=i+1) h2;have Qi:Dv F 121 (Aa t (i+1)) (Af F (Aa t (i+1))).ex:=(K (i+1) h2).ex (Hz al h2);have xi:Av F t (i+1)=Af F (Aa t (i+1)):=Dq h2;have au:=(a2 i).bd _ hb;have bi:=IK t (i+2);have bn:=It h2;have a6:CU t (i+2)=CU t (i+1)+DT t (i+1):=rfl;have ak:=hO.lt;have ei:(((i+1:Nat):Int)-1).toNat=i:=by omega
 refine Ad ?_;refine AO (Dv.to Qi [b3,b4,b5,b6,b8] h ah au O (E.Q Br) g.size) ?_;rintro _ _ ⟨⟨bf,bg,rfl,an,ab⟩,h,ga⟩;refine A4 fun g E=>?_;have hr:=DP hr;have aa:=F2 aa;have hO:=hO.gt ga rfl;have hd:Ac (((i+1:Nat):Int)-1<(((Af F (Aa t 0)).K S).1.2.1.length:Nat))=Ac (i<((Af F (Aa t 0)).K S).1.2.1.length):=by rw [decide_eq_decide];omega
 have ea:Ed t (Av F t) ((Af F (Aa t 0)).K S).1.2.1 (AG (Ac ((t.j.length:Int)-1=(((Af F (Aa t 0)).K S).1.2.1.length:Nat))) t.z 7 ((Af F (Aa t 0)).K S).2) (i+1)=((Ed t (Av F t) ((Af F (Aa t 0)).K S).1.2.1 (AG (Ac ((t.j.length:Int)-1=(((Af F (Aa t 0)).K S).1.2.1.length:Nat))) t.z 7 ((Af F (Aa t 0)).K S).2) i).1++[((Af F (Aa t (i+1))).ex (Ed t (Av F t) ((Af F (Aa t 0)).K S).1.2.1 (AG (Ac ((t.j.length:Int)-1=(((Af F (Aa t 0)).K S).1.2.1.length:Nat))) t.z 7 ((Af F (Aa t 0)).K S).2) i).2).1],AG (!(Ac (i<((Af F (Aa t 0)).K S).1.2.1.length) && !EE (((Af F (Aa t 0)).K S).1.2.1.getD i Az) ((Af F (Aa t (i+1))).ex (Ed t (Av F t) ((Af F (Aa t 0)).K S).1.2.1 (AG (Ac ((t.j.length:Int)-1=(((Af F (Aa t 0)).K S).1.2.1.length:Nat))) t.z 7 ((Af F (Aa t 0)).K S).2) i).2).1.ty)) (Aa t (i+1)).z 7 ((Af F (Aa t (i+1))).ex (Ed t (Av F t) ((Af F (Aa t 0)).K S).1.2.1 (AG (Ac ((t.j.length:Int)-1=(((Af F (Aa t 0)).K S).1.2.1.length:Nat))) t.z 7 ((Af F (Aa t 0)).K S).2) i).2).2):=by
  show ((Ed t (Av F t) ((Af F (Aa t 0)).K S).1.2.1 (AG (Ac ((t.j.length:Int)-1=(((Af F (Aa t 0)).K S).1.2.1.length:Nat))) t.z 7 ((Af F (Aa t 0)).K S).2) i).1++[((Av F t (i+1)).ex (Ed t (Av F t) ((Af F (Aa t 0)).K S).1.2.1 (AG (Ac ((t.j.length:Int)-1=(((Af F (Aa t 0)).K S).1.2.1.length:Nat))) t.z 7 ((Af F (Aa t 0)).K S).2) i).2).1],_)=_;rw [xi]
 refine A5 fun _ _ ga bw g E=>?_;have hr:=Bq hr;have hO:=Bq hO;have ab:=Bq ab;have h:=Ar h;have aa:=Ar aa;refine AS fun _ ga Ca g E=>?_;have hr:=IW hr;have h:=G3 h;have aa:=Co aa;have ab:=AK ab;have hO:=DO hO;refine Ad ?_;refine Dj [3,3,3,3,3,3,3,3,3,3,0,3,0,1,3,3] ?_;refine OK fun g E=>?_;have hr:=hr.A (G.drew _);have h:=h.A (G.drew _);have aa:=aa.A (G.drew _);have ab:=ab.A (G.drew _);have hO:=hO.A (G.drew _);refine Ad ?_;refine Ay J J J (fun _=>CS Jb (Ah J id) (Ah J id) (fun hc=>by have:=AH hc.2;omega) (fun hc=>(Xp hr (i:=i) (by have:=AH hc.2;omega)).1)) (BQ J J J (A8 Cf (Ah J id) J (fun hc=>by rw [ei];exact aC hr (i:=i) (by have:=AH hc.2;omega))) ?_);refine Ad ?_;refine GA (fun hc=>O1 (((Af F (Aa t 0)).K S).1.2.1.getD i Az) ((Af F (Aa t (i+1))).ex (Ed t (Av F t) ((Af F (Aa t 0)).K S).1.2.1 (AG (Ac ((t.j.length:Int)-1=(((Af F (Aa t 0)).K S).1.2.1.length:Nat))) t.z 7 ((Af F (Aa t 0)).K S).2) i).2).1.ty _) (fun be ad=>?_);have g:=BZ g ad;replace E:=E.A ad;have hr:=hr.A (ad);have h:=h.A (ad);have aa:=aa.A (ad);have ab:=ab.A (ad);have hO:=hO.A (ad);refine Aw (fun h3=>?_) fun h3=>?_;rw [hd] at h3;refine Ad ?_;obtain ⟨e0,p1,c1,hcell,ah⟩:=Ba aa (i:=i+1) am;refine Ad ?_;refine AO (F4 (Aa t (i+1)).z 7 h) ?_;rintro _ _ ⟨rfl,h,ga⟩;refine A4 fun g E=>?_;have hr:=DP hr;have ab:=DP ab;have hO:=hO.gt ga rfl;refine Ck fun _ _ ga a1 g E=>?_;have hr:=Bq hr
 have hO:=Bq hO;have ab:=Bq ab;have h:=Ar h;have hOo:=hO;refine Hx J AC Cp J (Ab J) hO (Ab J) J E.J.row (Fl ab an DZ (fun j hj=>.inr (ak j hj))) (by simp;omega) Dn ⟨by have:=g.size;omega,by have q3:=E.g6.lt;have q4:=E.g5.lt;have q5:=E.g4.lt;have q6:=E.g3.lt;have q8:=E.g2.lt;have ay:=E.U.lt;have ar:=E.J.lt;simp;omega⟩ ?_;intro aw av ap hO ac;replace E:=E.ab ac hOo.ne Br;have g:=EQ g ac Fo;have hr:=hr.ac (fun b aj ⟨cs,fr,hh⟩ _ hx=>⟨hx,ac.block b aj (fun e=>by obtain ⟨aq,ax,h2⟩:=hOo.nd b e.symm;rw [hh] at h2;injection h2 with h2;injection h2 with _ h2;exact absurd h2 BT)⟩);have h:=h.aa ac hOo O;refine AS fun _ ga Ca g E=>?_;have hr:=IW hr;have h:=G3 h;have hO:=DO hO;refine Ad ?_;refine Ci [9,0,3,4,5,7,8] ?_;refine Ai (fun a ha=>?_);exact ⟨i+1,ha,⟨⟨h2,by rw [ea,h3];exact h,hr.ax,_,E.g4,by rw [ea];exact hO.sub DZ⟩,g⟩,(A6 (A7 E.g6) (A6 (A7 E.g5) (A6 (A7 E.g3) (A6 (A7 E.g2) (Di _))))),O⟩;rw [hd] at h3;refine Ck fun _ _ ga a1 g E=>?_;have hr:=Bq hr;have hO:=Bq hO;have ab:=Bq ab;have h:=Ar h;have hOo:=hO;refine Hx J AC Cp J (Ab J) hO (Ab J) J E.J.row (Fl ab an DZ (fun j hj=>.inr (ak j hj))) (by simp;omega) Dn ⟨by have:=g.size;omega,by have q3:=E.g6.lt;have q4:=E.g5.lt;have q5:=E.g4.lt;have q6:=E.g3.lt;have q8:=E.g2.lt;have ay:=E.U.lt;have ar:=E.J.lt;simp;omega⟩ ?_;intro aw av ap hO ac;replace E:=E.ab ac hOo.ne Br;have g:=EQ g ac Fo
 have hr:=hr.ac (fun b aj ⟨cs,fr,hh⟩ _ hx=>⟨hx,ac.block b aj (fun e=>by obtain ⟨aq,ax,h2⟩:=hOo.nd b e.symm;rw [hh] at h2;injection h2 with h2;injection h2 with _ h2;exact absurd h2 BT)⟩);have h:=h.aa ac hOo O;refine AS fun _ ga Ca g E=>?_;have hr:=IW hr;have h:=G3 h;have hO:=DO hO;refine Ad ?_;refine Ci [9,0,3,4,5,7,8] ?_;refine Ai (fun a ha=>?_);exact ⟨i+1,ha,⟨⟨h2,by rw [ea,h3];exact h,hr.ax,_,E.g4,by rw [ea];exact hO.sub DZ⟩,g⟩,(A6 (A7 E.g6) (A6 (A7 E.g5) (A6 (A7 E.g3) (A6 (A7 E.g2) (Di _))))),O⟩;have h2:i=t.j.length-1:=by simp only [CB] at h2;omega
 subst h2;refine Ad ?_;refine Df J ET (Ab J) (Ab J) J J E.g2 J J ?_;intro bz ag _ BS;have C5:=E.g2;replace E:=E.s2 ag BS;have g:=Cw g ag O;first|have hr:=hr.af ag C5 rfl|have hr:=hr.C ag (by first|exact .inl O|simp)
 have h:=h.C ag C5 rfl O;first|have hO:=hO.af ag C5 rfl|have hO:=hO.C ag BR
 refine AS fun _ ga Ca g E=>?_;have hr:=IW hr;have h:=G3 h;have hO:=DO hO;refine AN ?_;have e:Jf t (Av F t) S=(AF t (((Af F (Aa t 0)).K S).1.1::(Ed t (Av F t) ((Af F (Aa t 0)).K S).1.2.1 (AG (Ac ((t.j.length:Int)-1=(((Af F (Aa t 0)).K S).1.2.1.length:Nat))) t.z 7 ((Af F (Aa t 0)).K S).2) (t.j.length-1)).1) ((Af F (Aa t 0)).K S).1.2.2,(Ed t (Av F t) ((Af F (Aa t 0)).K S).1.2.1 (AG (Ac ((t.j.length:Int)-1=(((Af F (Aa t 0)).K S).1.2.1.length:Nat))) t.z 7 ((Af F (Aa t 0)).K S).2) (t.j.length-1)).2):=by unfold Jf;rw [x0]
 rw [e];exact ⟨BO (t:=AF t _ _) rfl hO.kd,h,g⟩;have hq:Ac ((t.j.length:Int)-1=(((Af F (Aa t 0)).K S).1.2.1.length:Nat))=true:=by simpa using h1
 have eS:((Af F (Aa t 0)).K S).2=(AG (Ac ((t.j.length:Int)-1=(((Af F (Aa t 0)).K S).1.2.1.length:Nat))) t.z 7 ((Af F (Aa t 0)).K S).2):=by rw [hq];rfl
 rw [eS] at h;refine Ad ?_;have bb:=E.1;refine GR (fun (i:Nat) u2=>(i+1≤t.j.length∧D5 F n0 b (Ed t (Av F t) ((Af F (Aa t 0)).K S).1.2.1 (AG (Ac ((t.j.length:Int)-1=(((Af F (Aa t 0)).K S).1.2.1.length:Nat))) t.z 7 ((Af F (Aa t 0)).K S).2) i).2 u2∧Gd 0 [] u2 ((Af F (Aa t 0)).K S).1.2.1 (.slice pl ((Af F (Aa t 0)).K S).1.2.1.length cl)∧∃ s,Ax u2 b5 26 (De (DJ t) s)∧Dp [b3,b4,b5,b6,b8] w.heap.size u2 (((Af F (Aa t 0)).K S).1.1::(Ed t (Av F t) ((Af F (Aa t 0)).K S).1.2.1 (AG (Ac ((t.j.length:Int)-1=(((Af F (Aa t 0)).K S).1.2.1.length:Nat))) t.z 7 ((Af F (Aa t 0)).K S).2) i).1) s)∧AP DU n0 w u2) _ [(0,True,_),(3,True,_),(4,True,_),(5,True,_),(7,True,_),(8,True,_)] (fun (i:Nat)=>[(9,True,.int .i64 ((i+1:Nat):Int))]) (fun (i:Nat)=>t.j.length-i) (0) ⟨⟨hl,h,hr.ax,_,E.g2,hO.sub DZ⟩,g⟩ (A6 (A7 E.g4) (A6 (A7 E.g3) (A6 (A7 E.U) (A6 (A7 E.J) (Di _))))) Bp ?_;clear E;rintro i u2 ⟨bc,a7⟩ ⟨B3,B4,B6,B8,_⟩;replace B3:Ax _ _ _ _:=B3;replace B4:Ax _ _ _ _:=B4;replace B6:Ax _ _ _ _:=B6;replace B8:Ax _ _ _ _:=B8;have g:=a7;obtain ⟨hi,h,hr,s,B5,hO⟩:=bc;obtain ⟨sa,sc,rfl⟩:=hO.slice;have aa:=ao.gt a7 (fun k h=>h);have ba:(((Af F (Aa t 0)).K S).1.1::(Ed t (Av F t) ((Af F (Aa t 0)).K S).1.2.1 (AG (Ac ((t.j.length:Int)-1=(((Af F (Aa t 0)).K S).1.2.1.length:Nat))) t.z 7 ((Af F (Aa t 0)).K S).2) i).1).length=i+1:=by rw [List.length_cons,Qm]
 have bq:=Qm t (Av F t) ((Af F (Aa t 0)).K S).1.2.1 (AG (Ac ((t.j.length:Int)-1=(((Af F (Aa t 0)).K S).1.2.1.length:Nat))) t.z 7 ((Af F (Aa t 0)).K S).2) i;have E:=GX (L:=[(b8,_,_),(b6,_,_),(b5,_,_),(b4,_,_),(b3,_,_)]) bb ⟨B8,B6,B5,B4,B3,Cc⟩ rfl;refine Aw (fun h4=>?_) fun h4=>?_;have h4:i+1<t.j.length:=by simp only [BM] at h4;omega
 have am:=h4;obtain ⟨e0,p1,c1,hcell,ah⟩:=Ba aa (i:=i+1) h4;have Qi:Dv F 121 (Aa t (i+1)) (Af F (Aa t (i+1))).ex:=(K (i+1) h4).ex (Hz al h4);have xi:Av F t (i+1)=Af F (Aa t (i+1)):=Dq h4;have au:=(a2 i).bd _ hb;have bi:=IK t (i+2);have bn:=It h4;have a6:CU t (i+2)=CU t (i+1)+DT t (i+1):=rfl;have ak:=hO.lt;have ei:(((i+1:Nat):Int)-1).toNat=i:=by omega
 refine Ad ?_;refine AO (Dv.to Qi [b3,b4,b5,b6,b8] h ah au O (E.Q Br) g.size) ?_;rintro _ _ ⟨⟨bf,bg,rfl,an,ab⟩,h,ga⟩;refine A4 fun g E=>?_;have hr:=DP hr;have aa:=F2 aa;have hO:=hO.gt ga rfl;have hd:Ac (((i+1:Nat):Int)-1<(((Af F (Aa t 0)).K S).1.2.1.length:Nat))=Ac (i<((Af F (Aa t 0)).K S).1.2.1.length):=by rw [decide_eq_decide];omega
 have ea:Ed t (Av F t) ((Af F (Aa t 0)).K S).1.2.1 (AG (Ac ((t.j.length:Int)-1=(((Af F (Aa t 0)).K S).1.2.1.length:Nat))) t.z 7 ((Af F (Aa t 0)).K S).2) (i+1)=((Ed t (Av F t) ((Af F (Aa t 0)).K S).1.2.1 (AG (Ac ((t.j.length:Int)-1=(((Af F (Aa t 0)).K S).1.2.1.length:Nat))) t.z 7 ((Af F (Aa t 0)).K S).2) i).1++[((Af F (Aa t (i+1))).ex (Ed t (Av F t) ((Af F (Aa t 0)).K S).1.2.1 (AG (Ac ((t.j.length:Int)-1=(((Af F (Aa t 0)).K S).1.2.1.length:Nat))) t.z 7 ((Af F (Aa t 0)).K S).2) i).2).1],AG (!(Ac (i<((Af F (Aa t 0)).K S).1.2.1.length) && !EE (((Af F (Aa t 0)).K S).1.2.1.getD i Az) ((Af F (Aa t (i+1))).ex (Ed t (Av F t) ((Af F (Aa t 0)).K S).1.2.1 (AG (Ac ((t.j.length:Int)-1=(((Af F (Aa t 0)).K S).1.2.1.length:Nat))) t.z 7 ((Af F (Aa t 0)).K S).2) i).2).1.ty)) (Aa t (i+1)).z 7 ((Af F (Aa t (i+1))).ex (Ed t (Av F t) ((Af F (Aa t 0)).K S).1.2.1 (AG (Ac ((t.j.length:Int)-1=(((Af F (Aa t 0)).K S).1.2.1.length:Nat))) t.z 7 ((Af F (Aa t 0)).K S).2) i).2).2):=by
  show ((Ed t (Av F t) ((Af F (Aa t 0)).K S).1.2.1 (AG (Ac ((t.j.length:Int)-1=(((Af F (Aa t 0)).K S).1.2.1.length:Nat))) t.z 7 ((Af F (Aa t 0)).K S).2) i).1++[((Av F t (i+1)).ex (Ed t (Av F t) ((Af F (Aa t 0)).K S).1.2.1 (AG (Ac ((t.j.length:Int)-1=(((Af F (Aa t 0)).K S).1.2.1.length:Nat))) t.z 7 ((Af F (Aa t 0)).K S).2) i).2).1],_)=_;rw [xi]
 refine A5 fun _ _ ga _ g E=>?_;have hr:=Bq hr;have hO:=Bq hO;have ab:=Bq ab;have h:=Ar h;have aa:=Ar aa;refine AS fun _ ga Ca g E=>?_;have hr:=IW hr;have h:=G3 h;have aa:=Co aa;have ab:=AK ab;have hO:=DO hO;refine Ad ?_;refine Dj [3,3,3,3,3,3,3,3,3,3,0,3,0,1,3,3] ?_;refine OK fun g E=>?_;have hr:=hr.A (G.drew _);have h:=h.A (G.drew _);have aa:=aa.A (G.drew _);have ab:=ab.A (G.drew _);have hO:=hO.A (G.drew _);refine Ad ?_;refine Ay J J J (fun _=>CS Jb (Ah J id) (Ah J id) (fun hc=>by have:=AH hc.2;omega) (fun hc=>(Xp hr (i:=i) (by have:=AH hc.2;omega)).1)) (BQ J J J (A8 Cf (Ah J id) J (fun hc=>by rw [ei];exact aC hr (i:=i) (by have:=AH hc.2;omega))) ?_);refine Ad ?_;refine GA (fun hc=>O1 (((Af F (Aa t 0)).K S).1.2.1.getD i Az) ((Af F (Aa t (i+1))).ex (Ed t (Av F t) ((Af F (Aa t 0)).K S).1.2.1 (AG (Ac ((t.j.length:Int)-1=(((Af F (Aa t 0)).K S).1.2.1.length:Nat))) t.z 7 ((Af F (Aa t 0)).K S).2) i).2).1.ty _) (fun be ad=>?_);have g:=BZ g ad;replace E:=E.A ad;have hr:=hr.A (ad);have h:=h.A (ad);have aa:=aa.A (ad);have ab:=ab.A (ad);have hO:=hO.A (ad);refine Aw (fun h5=>?_) fun h5=>?_;rw [hd] at h5;refine Ad ?_;obtain ⟨e0,p1,c1,hcell,ah⟩:=Ba aa (i:=i+1) am;refine Ad ?_;refine AO (F4 (Aa t (i+1)).z 7 h) ?_;rintro _ _ ⟨rfl,h,ga⟩;refine A4 fun g E=>?_;have hr:=DP hr;have ab:=DP ab;have hO:=hO.gt ga rfl;refine Ck fun _ _ ga a1 g E=>?_;have hr:=Bq hr
 have hO:=Bq hO;have ab:=Bq ab;have h:=Ar h;have hOo:=hO;refine Hx J AC Cp J (Ab J) hO (Ab J) J E.J.row (Fl ab an DZ (fun j hj=>.inr (ak j hj))) (by simp;omega) Dn ⟨by have:=g.size;omega,by have q3:=E.g6.lt;have q4:=E.g5.lt;have q5:=E.g4.lt;have q6:=E.g3.lt;have q8:=E.g2.lt;have ay:=E.U.lt;have ar:=E.J.lt;simp;omega⟩ ?_;intro aw av ap hO ac;replace E:=E.ab ac hOo.ne Br;have g:=EQ g ac Fo;have hr:=hr.ac (fun b aj ⟨cs,fr,hh⟩ _ hx=>⟨hx,ac.block b aj (fun e=>by obtain ⟨aq,ax,h2⟩:=hOo.nd b e.symm;rw [hh] at h2;injection h2 with h2;injection h2 with _ h2;exact absurd h2 BT)⟩);have h:=h.aa ac hOo O;refine AS fun _ ga Ca g E=>?_;have hr:=IW hr;have h:=G3 h;have hO:=DO hO;refine Ad ?_;refine Ci [9,0,3,4,5,7,8] ?_;refine Ai (fun a ha=>?_);exact ⟨i+1,ha,⟨⟨h4,by rw [ea,h5];exact h,hr.ax,_,E.g4,by rw [ea];exact hO.sub DZ⟩,g⟩,(A6 (A7 E.g6) (A6 (A7 E.g5) (A6 (A7 E.g3) (A6 (A7 E.g2) (Di _))))),O⟩;rw [hd] at h5;refine Ck fun _ _ ga _ g E=>?_;have hr:=Bq hr;have hO:=Bq hO;have ab:=Bq ab;have h:=Ar h;have hOo:=hO;refine Hx J AC Cp J (Ab J) hO (Ab J) J E.J.row (Fl ab an DZ (fun j hj=>.inr (ak j hj))) (by simp;omega) Dn ⟨by have:=g.size;omega,by have q3:=E.g6.lt;have q4:=E.g5.lt;have q5:=E.g4.lt;have q6:=E.g3.lt;have q8:=E.g2.lt;have ay:=E.U.lt;have ar:=E.J.lt;simp;omega⟩ ?_;intro aw av ap hO ac;replace E:=E.ab ac hOo.ne Br;have g:=EQ g ac Fo
 have hr:=hr.ac (fun b aj ⟨cs,fr,hh⟩ _ hx=>⟨hx,ac.block b aj (fun e=>by obtain ⟨aq,ax,h2⟩:=hOo.nd b e.symm;rw [hh] at h2;injection h2 with h2;injection h2 with _ h2;exact absurd h2 BT)⟩);have h:=h.aa ac hOo O;refine AS fun _ ga Ca g E=>?_;have hr:=IW hr;have h:=G3 h;have hO:=DO hO;refine Ad ?_;refine Ci [9,0,3,4,5,7,8] ?_;refine Ai (fun a ha=>?_);exact ⟨i+1,ha,⟨⟨h4,by rw [ea,h5];exact h,hr.ax,_,E.g4,by rw [ea];exact hO.sub DZ⟩,g⟩,(A6 (A7 E.g6) (A6 (A7 E.g5) (A6 (A7 E.g3) (A6 (A7 E.g2) (Di _))))),O⟩;have h4:i=t.j.length-1:=by simp only [CB] at h4;omega
 subst h4;refine Ad ?_;refine Df J ET (Ab J) (Ab J) J J E.g2 J J ?_;intro bs ae _ BS;have C5:=E.g2;replace E:=E.s2 ae BS;have g:=Cw g ae O;first|have hr:=hr.af ae C5 rfl|have hr:=hr.C ae (by first|exact .inl O|simp)
 have h:=h.C ae C5 rfl O;first|have hO:=hO.af ae C5 rfl|have hO:=hO.C ae BR
 refine AS fun _ ga Ca g E=>?_;have hr:=IW hr;have h:=G3 h;have hO:=DO hO;refine AN ?_;have e:Jf t (Av F t) S=(AF t (((Af F (Aa t 0)).K S).1.1::(Ed t (Av F t) ((Af F (Aa t 0)).K S).1.2.1 (AG (Ac ((t.j.length:Int)-1=(((Af F (Aa t 0)).K S).1.2.1.length:Nat))) t.z 7 ((Af F (Aa t 0)).K S).2) (t.j.length-1)).1) ((Af F (Aa t 0)).K S).1.2.2,(Ed t (Av F t) ((Af F (Aa t 0)).K S).1.2.1 (AG (Ac ((t.j.length:Int)-1=(((Af F (Aa t 0)).K S).1.2.1.length:Nat))) t.z 7 ((Af F (Aa t 0)).K S).2) (t.j.length-1)).2):=by unfold Jf;rw [x0]
 rw [e];exact ⟨BO (t:=AF t _ _) rfl hO.kd,h,g⟩
def Ka(e:Nat):Bool:=A2 e 59 || (A2 e 84 || (A2 e 82 || (A2 e 3 || A2 e 24)))
def CE(X:List Nat)(e k:Nat):Bool:=Ka e && !Ac (k∈X)
@[reducible] def Qu(X:List Nat)(n0:Nat):H8:=⟨fun w w'=>AP (CE X) n0 w w',AP.refl (CE X) n0,fun h k=>AP.trans h k⟩
theorem AP.wide{X X':List Nat}{n0:Nat}{w w':Ae}(g:AP (CE X') n0 w w')(h:∀ j∈X,j∈X'):AP (CE X) n0 w w' :=
 ⟨g.os,g.tape,g.output,g.size,fun k hk hb=>g.block k hk (hb.imp id fun hn ⟨cs,e,fr,hr,hm⟩=>hn ⟨cs,e,fr,hr,by
 unfold CE at hm ⊢;simp only [CW,Bool.not_eq_true',CB] at hm ⊢;exact ⟨hm.1,fun hx=>hm.2 (h k hx)⟩⟩)⟩
theorem Hc{X X':List Nat}{n0:Nat}{a w w':Ae}(g:AP (CE X) n0 a w)(k:AP (CE X') n0 w w')(h:∀ j∈X,j∈X':=by intro j hj;simp [hj]):AP (CE X) n0 a w':=g.trans (k.wide h)
def W1(X:List Nat):List (Nat×AD×List AJ)→Prop
 | []=>True
 | (b,e,_)::L=>(Ka e=false∨b∈X)∧W1 X L
theorem CP.bf{X:List Nat}{n0:Nat}{w w':Ae}{L:List (Nat×AD×List AJ)}(E:CP w L)(g:AP (CE X) n0 w w')(hL:W1 X L:=by repeat' (first|exact Cc|refine ⟨?_,?_⟩|exact .inl rfl|exact .inr BR)):CP w' L:=by
 have aa:∀ (L:List (Nat×AD×List AJ)),W1 X L→∀ b e l,(b,e,l)∈L→Ka e=false∨b∈X:=by
  intro L
  induction L with
  | nil=>intro _ b e l hm;cases hm
  | cons x L ih =>
   obtain ⟨b',e',l'⟩:=x;intro h b e l hm;rcases Dr.1 hm with q|q;injection q with q1 q2;injection q2 with q2 _;subst q1 q2;exact h.1;exact ih h.2 b e l q
 refine ⟨E.1,ON E.2 fun b e l hm h=>(g.block b h.lt (.inr fun ⟨cs,f,fr,hr,hM⟩=>?_)).trans h⟩;unfold Ax at h;rw [h] at hr;injection hr with hr;injection hr with _ hr;subst hr;unfold CE at hM;simp only [CW,Bool.not_eq_true',CB] at hM;rcases aa L hL b e l hm with q|q;rw [q] at hM;exact Ha hM.1;exact hM.2 q
def LS(F:Nd)(fv:AJ)(ms mg mn mf:Nat)(sv cv rv:AJ):List AJ:=De F fv++[.map (some ms),.map (some mg),.map (some mn),.map (some mf),sv,cv,rv]
def Il(k:Nat)(pv:AJ)(y:Bo):AJ:=.agg #[.int .i64 k,pv,.int .i64 y.k,Cg y.name]
def Jq(d:Nd):List Bo:=(Aa d 0).j.map fun p=>(Bx (Aa p 0)).1
def GV(d:Nd):Bo:=(Bx (Aa d 1)).1
def EH(TB:List Nat)(w:Ae)(l:List Bo)(v:AJ):Prop:=∃ p c,v = .slice p l.length c∧(0<l.length→∃ b o cs fr,p=some ⟨b,o,none⟩∧b∈TB∧w.heap[b]? = some (.cells cs 24 fr)∧CQ w b o (l.flatMap Ek))
theorem EH.ac{TB:List Nat}{w w':Ae}{l:List Bo}{v:AJ}(h:EH TB w l v)(hs:∀ b∈TB,b<w.heap.size→(∃ cs fr,w.heap[b]? = some (.cells cs 24 fr))→w'.heap[b]? = w.heap[b]?):EH TB w' l v:=by
 obtain ⟨p,c,rfl,h⟩:=h;refine ⟨p,c,rfl,fun h0=>?_⟩;obtain ⟨b,o,cs,fr,rfl,hb,hh,hR⟩:=h h0;have e:=hs b hb (EY.1 hh).1 ⟨cs,fr,hh⟩;exact ⟨b,o,cs,fr,rfl,hb,e.trans hh,fun i v hi=>(CY e).trans (hR i v hi)⟩
structure QP (F:Nd) (TB:List Nat) (ms mg mn mf:Nat) (pv:Nat→AJ) (w:Ae):Prop where
  hs:Do w ms (DR 2 (fun _ _=>.bool true) F.j 0)
  hg:Do w mg (DR 6 (fun _ d=>D7 (Bx (Aa d 0)).1) F.j 0)
  hn:Do w mn (DR 6 (fun k _=>.int .i64 k) F.j 0)
  hf:Do w mf (DR 4 (fun k d=>Il k (pv k) (GV d)) F.j 0)
  hp:∀ s,0≤(A9 F 4 s).2→EH TB w (Jq (A9 F 4 s).1) (pv (A9 F 4 s).2.toNat)
def Xy(w:Ae):Prop:=CQ w 2 0 (Ek tInt)∧CQ w 3 0 (Ek tBool)∧CQ w 4 0 (Ek tNil)∧CQ w 6 0 (Ek ⟨5,[]⟩)∧CQ w 1 0 (Ek ⟨6,[]⟩)∧CQ w 5 0 (Ek tFunc)
structure G7 (n0:Nat) (w:Ae):Prop where
  hL:Laid w
  hT:NW w
  hC:Xy w
  hG:10≤n0
  hn:n0≤w.heap.size
theorem G7.hb{n0:Nat}{w:Ae}(h:G7 n0 w):10≤w.heap.size:=Ao h.hG h.hn
theorem MJ{w w':Ae}{b o:Nat}{l:List AJ}(h:CQ w b o l)(e:w'.heap[b]? = w.heap[b]?):CQ w' b o l:=fun i v hi=>(CY e).trans (h i v hi)
theorem G7.below{n0:Nat}{w w':Ae}(h:G7 n0 w)(g:Below n0 w w'):G7 n0 w':=by
 have hg:=h.hG;have s:∀ k,k<10→w'.heap[k]? = w.heap[k]?:=fun k hk=>g.block k O;obtain ⟨c1,c2,c3,c4,c5,c6⟩:=h.hC;exact ⟨h.hL.below h.hG g,MJ h.hT (s _ BT),⟨MJ c1 (s _ BT),MJ c2 (s _ BT),MJ c3 (s _ BT),MJ c4 (s _ BT),MJ c5 (s _ BT),MJ c6 (s _ BT)⟩,h.hG,Ao h.hn g.size⟩
def PJ:Option (List Bo)→Bo→List Bo
 | none,_=>[]
 | some l,y=>l++[y]
structure EX (F:Nd) (n0 b:Nat) (TB X:List Nat) (r0:Option (List Bo)) (S:Ak) (fv:AJ) (ms mg mn mf:Nat) (pv:Nat→AJ) (sv cv rv:AJ) (vs:List AJ) (sc:List (List Dz)) (w:Ae):Prop where
  B:Ax w b 59 (LS F fv ms mg mn mf sv cv rv)
  hb:n0≤b
  kF:Bv w (fun k=>k<n0) F.j fv
  hF:count F≤1000000
  T:QP F TB ms mg mn mf pv w
  L:G7 n0 w
  so:w.ownsRow n0 82 1 sv vs.length vs
  sr:G2 84 n0 w vs sc
  fl:sc.flatten=S.F
  sl:sc.length=S.w+1
  ss:∀ (i:Nat) (l:List Dz),sc[i]? = some l→∀ v∈l,v.w=i
  co:w.ownsRow n0 3 1 cv (S.D+1) ((S.next.take (S.D+1)).map fun (k:Nat)=>Value.int .i64 (k:Int))
  ro:w.ownsRow n0 24 2 rv (PJ r0 S.E).length ((PJ r0 S.E).flatMap Ek)
  rl:∀ l,r0=some l→l.length=S.D
  tx:∀ j∈TB,j∈X
  xl:∀ j∈X,j<w.heap.size
  bx:b∉X
  sx:∀ k,sv.ownBlock=some k→k∉X
  vx:∀ (i:Nat) (v:AJ),vs[i]? = some v→∀ k,v.ownBlock=some k→k∉X
  cx:∀ k,cv.ownBlock=some k→k∉X
  rx:∀ k,rv.ownBlock=some k→k∉X
  sz:sc.length≤2000000
def CA(F:Nd)(n0 b:Nat)(TB X:List Nat)(r0:Option (List Bo))(S:Ak)(w:Ae):Prop:=∃ fv ms mg mn mf pv sv cv rv vs sc,EX F n0 b TB X r0 S fv ms mg mn mf pv sv cv rv vs sc w
section
variable {F:Nd} {n0 b:Nat} {TB X:List Nat} {r0:Option (List Bo)} {S:Ak} {fv:AJ} {ms mg mn mf:Nat} {pv:Nat→AJ} {sv cv rv:AJ} {vs:List AJ} {sc:List (List Dz)} {w w':Ae}
def Y8(X:List Nat)(w:Ae)(k:Nat):Prop:=(∃ cs e fr,w.heap[k]? = some (.cells cs e fr)∧Ka e=true)∧k∉X
theorem Si{e:AD}{z m:Nat}{v:AJ}{xs:List AJ}(h:w.ownsRow n0 e z v m xs)(he:Ka e=true)(hx:∀ k,v.ownBlock=some k→k∉X):∀ k,v.ownBlock=some k→k<w.heap.size∧Y8 X w k:=fun k hk=>by
 refine ⟨(h.lt k hk).2,?_,hx k hk⟩;rcases h.2 with ⟨h1,_⟩|⟨g,aa,ab,h1,h2,h3,_⟩;rw [h1] at hk;cases hk;rw [h1] at hk;have:g=k:=by injection hk
 subst this;exact ⟨_,_,_,h3,he⟩
theorem EX.fr(h:EX F n0 b TB X r0 S fv ms mg mn mf pv sv cv rv vs sc w)(hz:w.heap.size≤w'.heap.size)(hB:Below n0 w w')
 (h1:∀ (k:Nat),k<w.heap.size→Y8 X w k→w'.heap[k]? = w.heap[k]?) (h2:∀ k∈TB,k<w.heap.size→(∃ cs fr,w.heap[k]? = some (.cells cs 24 fr))→w'.heap[k]? = w.heap[k]?)
 (h3:∀ (k:Nat) (ms:Array MapEntry) (c:Nat),w.heap[k]? = some (Obj.map ms c)→w'.heap[k]? = w.heap[k]?):EX F n0 b TB X r0 S fv ms mg mn mf pv sv cv rv vs sc w':=by
 have m:∀ {k es},Do w k es→Do w' k es:=fun hm=>hm.ac (by obtain ⟨ms,c,hb,_⟩:=hm;exact h3 _ _ _ hb)
 refine ⟨(h1 b h.B.lt ⟨⟨_,_,_,h.B,rfl⟩,h.bx⟩).trans h.B,h.hb,HQ h.kF (fun _ h _=>h) (fun k hk _=>hB.block k hk),h.hF,⟨m h.T.hs,m h.T.hg,m h.T.hn,m h.T.hf,fun s hs=>(h.T.hp s hs).ac h2⟩,h.L.below hB,
  P6 h.so fun k hk=>?_,h.sr.ac fun i v hv k hk=>?_,h.fl,h.sl,h.ss,P6 h.co fun k hk=>?_,P6 h.ro fun k hk=>?_,h.rl,h.tx,fun j hj=>Eo (h.xl j hj) hz,h.bx,h.sx,h.vx,h.cx,h.rx,h.sz⟩
 obtain ⟨q1,q2⟩:=Si h.so rfl h.sx k hk;exact h1 k q1 q2;obtain ⟨l,_,hr⟩:=h.sr.ex hv;obtain ⟨q1,q2⟩:=Si hr rfl (h.vx i v hv) k hk;exact h1 k q1 q2;obtain ⟨q1,q2⟩:=Si h.co rfl h.cx k hk;exact h1 k q1 q2;obtain ⟨q1,q2⟩:=Si h.ro rfl h.rx k hk;exact h1 k q1 q2
theorem EX.A(h:EX F n0 b TB X r0 S fv ms mg mn mf pv sv cv rv vs sc w)(g:G w w'):EX F n0 b TB X r0 S fv ms mg mn mf pv sv cv rv vs sc w' :=
 h.fr g.size ⟨g.os,g.tape,g.output,g.size,fun k hk=>g.block (Eo hk h.L.hn)⟩ (fun k hk _=>g.block hk) (fun k _ hk _=>g.block hk) fun k ms c e=>g.block (EY.1 e).1
theorem EX.ai(h:EX F n0 b TB X r0 S fv ms mg mn mf pv sv cv rv vs sc w){row:Option Nat}(hg:w.grownBy w' row)(hr:∀ k,row=some k→n0≤k∧(∃ cs e fr,w.heap[k]? = some (.cells cs e fr)∧(Ka e=false∨(k∈X∧k∉TB)))):EX F n0 b TB X r0 S fv ms mg mn mf pv sv cv rv vs sc w':=by
 refine h.fr hg.size ⟨hg.os,hg.tape,hg.output,hg.size,fun k hk=>hg.block k (Eo hk h.L.hn) fun e=>by have:=(hr k e.symm).1;omega⟩ (fun k hk ho=>hg.block k hk fun e=>?_) (fun k hT hk ⟨cs,fr,hc⟩=>hg.block k hk fun e=>?_) fun k ms c hm=>hg.block k (EY.1 hm).1 fun e=>?_;obtain ⟨_,cs,f,fr,h1,h2⟩:=hr k e.symm;obtain ⟨⟨ab,f',aa,h3,h4⟩,h5⟩:=ho;rcases h2 with h2|h2;rw [h1] at h3;injection h3 with h3;injection h3 with _ h3;subst h3;rw [h2] at h4;cases h4;exact h5 h2.1;obtain ⟨_,ab,f,aa,h1,h2⟩:=hr k e.symm;rcases h2 with h2|h2;rw [hc] at h1;injection h1 with h1;injection h1 with _ h1;subst h1;exact Ha (show true=false from h2);exact h2.2 hT;obtain ⟨_,ab,f,aa,h1,_⟩:=hr k e.symm;rw [hm] at h1;injection h1 with h1;cases h1
theorem EX.C(h:EX F n0 b TB X r0 S fv ms mg mn mf pv sv cv rv vs sc w){j:Nat}{e:AD}{l:List AJ}(hg:w.grownBy w' (some j))(hB:Ax w j e l)(hj:n0≤j)(he:Ka e=false∨(j∈X∧j∉TB)):EX F n0 b TB X r0 S fv ms mg mn mf pv sv cv rv vs sc w' :=
 h.ai hg fun k hk=>by injection hk with hk;subst hk;exact ⟨hj,_,_,_,hB,he⟩
theorem EX.ak(h:EX F n0 b TB X r0 S fv ms mg mn mf pv sv cv rv vs sc w){j:Nat}{e:AD}{l:List AJ}(N:Ki w w' j e l):EX F n0 b TB (j::X) r0 S fv ms mg mn mf pv sv cv rv vs sc w':=by
 have k:=h.A N.g
 have hj:∀ {i:Nat},i<w.heap.size→i∉X→i∉j::X:=fun hi hx hm=>by
  rcases Dr.1 hm with q|q;have:=N.y;omega;exact hx q
 exact ⟨k.B,k.hb,k.kF,k.hF,k.T,k.L,k.so,k.sr,k.fl,k.sl,k.ss,k.co,k.ro,k.rl,fun i hi=>Lo _ (k.tx i hi),fun i hi=>by
  rcases Dr.1 hi with q|q;subst q;exact N.H.lt;exact k.xl i q,hj h.B.lt h.bx,fun i hi=>hj (h.so.lt i hi).2 (h.sx i hi),fun i v hv q hq=>hj (h.sr.lt hv q hq).2 (h.vx i v hv q hq),fun i hi=>hj (h.co.lt i hi).2 (h.cx i hi),fun i hi=>hj (h.ro.lt i hi).2 (h.rx i hi),h.sz⟩
theorem EX.sub(h:EX F n0 b TB X r0 S fv ms mg mn mf pv sv cv rv vs sc w){Y:List Nat}(hT:∀ j∈TB,j∈Y)(hY:∀ j∈Y,j∈X):EX F n0 b TB Y r0 S fv ms mg mn mf pv sv cv rv vs sc w :=
 ⟨h.B,h.hb,h.kF,h.hF,h.T,h.L,h.so,h.sr,h.fl,h.sl,h.ss,h.co,h.ro,h.rl,hT,fun j hj=>h.xl j (hY j hj),fun hm=>h.bx (hY _ hm),fun k hk hm=>h.sx k hk (hY _ hm),fun i v hv k hk hm=>h.vx i v hv k hk (hY _ hm),fun k hk hm=>h.cx k hk (hY _ hm),fun k hk hm=>h.rx k hk (hY _ hm),h.sz⟩
theorem EX.pc(h:EX F n0 b TB X r0 S fv ms mg mn mf pv sv cv rv vs sc w):CA F n0 b TB X r0 S w:=⟨_,_,_,_,_,_,_,_,_,_,_,h⟩
theorem CA.A(h:CA F n0 b TB X r0 S w)(g:G w w'):CA F n0 b TB X r0 S w':=by obtain ⟨_,_,_,_,_,_,_,_,_,_,_,h⟩:=h;exact (h.A g).pc
theorem CA.ai(h:CA F n0 b TB X r0 S w){row:Option Nat}(hg:w.grownBy w' row)(hr:∀ k,row=some k→n0≤k∧(∃ cs e fr,w.heap[k]? = some (.cells cs e fr)∧(Ka e=false∨(k∈X∧k∉TB)))):CA F n0 b TB X r0 S w':=by obtain ⟨_,_,_,_,_,_,_,_,_,_,_,h⟩:=h;exact (h.ai hg hr).pc
theorem CA.C(h:CA F n0 b TB X r0 S w){j:Nat}{e:AD}{l:List AJ}(hg:w.grownBy w' (some j))(hB:Ax w j e l)(hj:n0≤j)(he:Ka e=false∨(j∈X∧j∉TB)):CA F n0 b TB X r0 S w':=by obtain ⟨_,_,_,_,_,_,_,_,_,_,_,h⟩:=h;exact (h.C hg hB hj he).pc
theorem CA.ak(h:CA F n0 b TB X r0 S w){j:Nat}{e:AD}{l:List AJ}(N:Ki w w' j e l):CA F n0 b TB (j::X) r0 S w':=by obtain ⟨_,_,_,_,_,_,_,_,_,_,_,h⟩:=h;exact (h.ak N).pc
theorem CA.sub(h:CA F n0 b TB X r0 S w){Y:List Nat}(hT:∀ j∈TB,j∈Y)(hY:∀ j∈Y,j∈X):CA F n0 b TB Y r0 S w:=by obtain ⟨_,_,_,_,_,_,_,_,_,_,_,h⟩:=h;exact (h.sub hT hY).pc
theorem CA.lt(h:CA F n0 b TB X r0 S w):n0≤b∧b<w.heap.size:=by obtain ⟨_,_,_,_,_,_,_,_,_,_,_,h⟩:=h;exact ⟨h.hb,h.B.lt⟩
theorem CA.tb(h:CA F n0 b TB X r0 S w):(∀ j∈TB,j∈X)∧∀ j∈X,j<w.heap.size:=by obtain ⟨_,_,_,_,_,_,_,_,_,_,_,h⟩:=h;exact ⟨h.tx,h.xl⟩
theorem CA.laid(h:CA F n0 b TB X r0 S w):G7 n0 w:=by obtain ⟨_,_,_,_,_,_,_,_,_,_,_,h⟩:=h;exact h.L
theorem CA.nx(h:CA F n0 b TB X r0 S w):b∉X:=by obtain ⟨_,_,_,_,_,_,_,_,_,_,_,h⟩:=h;exact h.bx
theorem CA.az(h:CA F n0 b TB X r0 S w):D3 S:=by
 obtain ⟨_,_,_,_,_,_,_,_,_,_,aa,h⟩:=h;intro v hv;rw [← h.fl] at hv;obtain ⟨l,hl,hv⟩:=List.mem_flatten.1 hv;obtain ⟨i,hi,rfl⟩:=Kp hl;have:=h.ss i _ (Ei hi) v hv;have:=h.sl;omega
end
end Go.Rk
namespace Go.Rk
open Go.Proofs
open Go Go.RowKit Go.ChangeShapes
theorem Aae{H:Type}{enc:AD×AJ→H}{P:Bl}{w:Ae}{base:Nat}{sp:Nat→Bool}{held:Bool}{aa:Nat}{t:AD}{f0 f1:Field}{cs:List AJ}{k:Int}{s:List UInt8}{p:List MemPlace}
 (ht:P.underlying t=some (.struct #[f0,f1])) (h0:P.underlying f0.type=some (.int .i64)) (h1:P.underlying f1.type=some .string) (o0:f0.offset=0) (o1:f1.offset=1) (c0:P.cellsOf f0.type=1) (c1:P.cellsOf f1.type=1) (ct:P.cellsOf t=2)
 (h:DataW.trod enc P w base sp held aa t cs=some (.agg [.lit (.int .i64 k),.lit (.string s)],p)):cs=[.int .i64 k,Cg s]:=by
 obtain ⟨y0,y1,n,hx,hl,ha,hb⟩:=trod_struct2 ht h;rw [ct] at hl;rw [o0,c0,FI] at ha;rw [o1,c1] at hb;obtain ⟨m,e0,ab,_⟩:=DataW.trod_int h0 ha;obtain ⟨b,AU,ac,_⟩:=DataW.trod_string h1 hb;subst ab ac
 match cs,hl with
 | [u,v],_ =>
  have q0:[u]=[Value.int .i64 m]:=e0;have q1:[v]=[Value.string b]:=AU;injection q0 with q0 _;injection q1 with q1 _;rw [q0,q1];clear e0 AU ha hb h;injection hx with hx _;injection hx with hx;injection hx with h2 h3;injection h3 with h3 _;injection h2 with h2;injection h2 with _ h2;injection h3 with h3;injection h3 with h3;rw [h2,h3]
def Yq(P:Bl)(t:AD):Bool:=match P.underlying t with
 | some (.struct fs)=>(match fs.toList with
  | [f0,f1]=>(match P.underlying f0.type with|some (.int .i64)=>true|_=>false)&&((match P.underlying f1.type with|some .string=>true|_=>false)&&(A2 f0.offset 0&&(A2 f1.offset 1&&(A2 (P.cellsOf f0.type) 1&&(A2 (P.cellsOf f1.type) 1&&A2 (P.cellsOf t) 2)))))
  | _=>false)
 | _=>false
theorem QQ{H:Type}{enc:AD×AJ→H}{P:Bl}{w:Ae}{base:Nat}{sp:Nat→Bool}{held:Bool}{aa:Nat}{t:AD}{cs:List AJ}{k:Int}{s:List UInt8}{p:List MemPlace}
 (ht:Yq P t=true) (h:DataW.trod enc P w base sp held aa t cs=some (.agg [.lit (.int .i64 k),.lit (.string s)],p)):cs=[.int .i64 k,Cg s]:=by
 unfold Yq at ht;split at ht;rename_i fs hu;split at ht;rename_i f0 f1 hf;simp only [CW] at ht;obtain ⟨a0,a1,a2,a3,a4,a5,a6⟩:=ht;have ab:fs = #[f0,f1]:=by rw [← Array.toArray_toList (xs:=fs),hf]
 subst ab;refine Aae hu ?_ ?_ (Du a2) (Du a3) (Du a4) (Du a5) (Du a6) h;split at a0;assumption;cases a0;split at a1;assumption;cases a1;cases ht;cases ht
end Go.Rk
namespace Go.Rk
open Go.Proofs
open Go Go.RowKit Go.ChangeShapes Go.WideShapes
end Go.Rk
namespace Go.Rk
open Go.Proofs
open Go Go.RowKit Go.ChangeShapes Go.WideShapes Go.ChangeAt
theorem Zy{H:Type}{enc:AD×AJ→H}{P:Bl}{w:Ae}{base:Nat}{sp:Nat→Bool}{held:Bool}{aa:Nat}{t e:AD}{n:Nat}{cs:List AJ}{ls:List (List UInt8)}{p:List MemPlace}
 (ht:P.underlying t=some (.array n e)) (he:P.underlying e=some .string) (ad:P.cellsOf e=1) (ac:P.cellsOf t=n)
 (h:DataW.trod enc P w base sp held aa t cs=some (.agg (ls.map fun l=>.lit (.string l)),p)):cs=ls.map Cg:=by
 cases aa with
 | zero=>simp [DataW.trod] at h
 | succ aa =>
  simp only [DataW.trod,ht,ad,ac,E0] at h;split at h;rename_i hl;obtain ⟨xs,hm,hx⟩:=KJ.1 h
  have ab:xs.map (·.1)=ls.map fun l=>(DataW.lit (.string l):DataW H):=by
   have:=congrArg Prod.fst hx;simpa using this
  have af:xs.length=n:=by simpa using Lib.mapM_length hm
  have ag:ls.length=n:=by
   have:=congrArg List.length ab;simp at this;omega
  apply List.ext_getElem?;intro i;by_cases hi:i<n;obtain ⟨b,hb,hf⟩:=Lib.mapM_at hm i i (by simp [hi]);obtain ⟨s,hc,rfl,_⟩:=DataW.trod_string he hf
  have h1:cs[i]? = some (.string s):=by
   have:=congrArg (·[0]?) hc;simpa [Hp,List.getElem?_drop] using this
  have h2:(xs.map (·.1))[i]? = some (DataW.lit (.string s.data.toList):DataW H):=by simp [hb]
  rw [ab] at h2;simp only [List.getElem?_map,KJ,DataW.lit.injEq,Lit.string.injEq] at h2;obtain ⟨z',ae,e⟩:=h2;rw [h1];simp [ae,e];rw [F3 O,F3 (by simp;omega)];cases h
theorem Nh{P:Bl}{x:String×DataW Unit}{r:List (String×DataW Unit)}{W:Ae}{g:Nat}{t:AD}(h:laidMet P (x::r) W)(hg:P.globalNamed x.1=some g)(ht:(P.globals[g]?).map (·.type)=some t) :
 ∃ cs fuel p,W.var? P x.1=some cs∧DataW.trod (fun _=>()) P W 0 (fun _=>true) false fuel t cs.toList=some (x.2,p):=by
 obtain ⟨n,d⟩:=x;obtain ⟨ps,⟨g',t',cs,fuel,p,q,ab,ac,aa,hd,_,_⟩,_⟩:=h;obtain rfl:=EM (hg.symm.trans ab);obtain rfl:=EM (ht.symm.trans ac);exact ⟨cs,fuel,p,aa,hd⟩
abbrev O8:List (String×DataW Unit):=Go.Proofs.YtmpfjifhkmdbaaaGreatDoor.Rows.checkAgainRow.laid
theorem sT{W:Ae}(h:laidMetH An O8 W):Laid W:=by
 have h0:laidMet An O8 W:=h;obtain ⟨cs,af,p,hv,hd⟩:=Nh h0.tail.tail.tail.tail.tail (g:=7) (t:=149) Ag Ag;have hc:cs.toList=HD.map Cg:=Zy (n:=27) (e:=9) Ag Ag Ag Ag hd;obtain ⟨ag,ad,p2,ae,ab⟩:=Nh h0.tail.tail.tail (g:=9) (t:=146) Ag Ag;obtain ⟨ms,aa⟩:∃ ms,An.underlying 146=some (.interface ms):=Go.underlying_of_isIface Yb;obtain ⟨f',u,v,ac,_⟩:=iface_of_trod aa ab;refine ⟨fun j v hj=>?_,?_⟩;have:=World.var?_cell (by kernel_rfl:An.globalNamed _=some 7) hv j;rw [Cj,this,← hj,← hc];simp;have:=World.var?_cell (by kernel_rfl:An.globalNamed _=some 9) ae 0;refine ⟨.iface u v,?_,.inr ⟨_,_,rfl⟩⟩;rw [this,← CR,ac];rfl
theorem sC{W:Ae}(h:Laid W):10≤W.heap.size:=by
 obtain ⟨GE,h1,_⟩:=h.err;exact Aj W _ h1
theorem kW{W:Ae}(h:laidMetH An O8 W):NW W:=by
 have h0:laidMet An O8 W:=h;obtain ⟨cs,aa,p,hv,hd⟩:=Nh h0.tail.tail.tail.tail.tail.tail (g:=0) (t:=108) Ag Ag;have hc:cs.toList=J9.map Cg:=Zy (n:=13) (e:=9) Ag Ag Ag Ag hd;intro j v hj;have:=World.var?_cell (by kernel_rfl:An.globalNamed _=some 0) hv j;rw [Cj,this,← hj,← hc];simp
theorem Ada{W:Ae}(h:laidMetH An O8 W):Xy W:=by
 have h0:laidMet An O8 W:=h;obtain ⟨a6,an,p0,aw,ai⟩:=Nh h0.tail.tail.tail.tail.tail.tail.tail (g:=2) (t:=24) Ag Ag;have ac:=QQ Ag ai;obtain ⟨a3,ao,p1,au,av⟩:=Nh h0.tail.tail.tail.tail.tail.tail.tail.tail (g:=3) (t:=24) Ag Ag;have az:=QQ Ag av;obtain ⟨a1,ah,p2,ak,ae⟩:=Nh h0.tail.tail.tail.tail.tail.tail.tail.tail.tail (g:=4) (t:=24) Ag Ag;have ag:=QQ Ag ae;obtain ⟨a4,al,p3,aq,aj⟩:=Nh h0.tail.tail.tail.tail.tail.tail.tail.tail.tail.tail (g:=6) (t:=24) Ag Ag;have ab:=QQ Ag aj;obtain ⟨a5,am,p4,af,ax⟩:=Nh h0.tail.tail.tail.tail.tail.tail.tail.tail.tail.tail.tail (g:=1) (t:=24) Ag Ag;have ad:=QQ Ag ax;obtain ⟨a2,ar,p5,aa,ay⟩:=Nh h0.tail.tail.tail.tail.tail.tail.tail.tail.tail.tail.tail.tail (g:=5) (t:=24) Ag Ag;have ap:=QQ Ag ay
 exact ⟨(fun j v hj=>by
  have:=World.var?_cell (by kernel_rfl:An.globalNamed _=some 2) aw j;rw [Cj,this,← CR,ac];exact hj),(fun j v hj=>by
  have:=World.var?_cell (by kernel_rfl:An.globalNamed _=some 3) au j;rw [Cj,this,← CR,az];exact hj),(fun j v hj=>by
  have:=World.var?_cell (by kernel_rfl:An.globalNamed _=some 4) ak j;rw [Cj,this,← CR,ag];exact hj),(fun j v hj=>by
  have:=World.var?_cell (by kernel_rfl:An.globalNamed _=some 6) aq j;rw [Cj,this,← CR,ab];exact hj),(fun j v hj=>by
  have:=World.var?_cell (by kernel_rfl:An.globalNamed _=some 1) af j;rw [Cj,this,← CR,ad];exact hj),(fun j v hj=>by
  have:=World.var?_cell (by kernel_rfl:An.globalNamed _=some 5) aa j;rw [Cj,this,← CR,ap];exact hj)⟩
end Go.Rk
namespace Go.Proofs.YtmpfjifhkmdbaaaGreatDoor
open Go Go.RowKit Go.ChangeShapes Go.WideShapes Go.ChangeAt Go.Rk
theorem own:ownKnob Tryz.prog.godebug=none:=Ag
def cR:DataW Unit→AJ
 | .lit (.int k z)=>.int k z
 | .lit (.string s)=>.string ⟨s.toArray⟩
 | _=>.nilIface
def cellsOf:DataW Unit→Array AJ
 | .agg l=>(l.map cR).toArray
 | _=>#[]
def fK:DataW Unit→AJ
 | .iface _ (.ptr (.agg [d]))=>cR d
 | _=>.nilIface
def put(h:Array Obj)(g:Nat)(cs:Array AJ):Array Obj:=h.modify g fun
 | .cells _ t frozen=>.cells cs t frozen
 | o=>o
noncomputable def Vs(os:Os):Ae :=
 let N:=(World.settled Tryz.prog os).heap.size
 let w0:=World.holding Tryz.prog os ⟨#[.cells #[fK Rows.laid_strconv_ErrSyntax] 167,.cells #[fK Rows.laid_strconv_ErrRange] 167],#[],[]⟩
 let h0:=put w0.heap 0 (cellsOf Rows.laid_interleave_types_texts)
 let h1:=put h0 1 (cellsOf Rows.laid_interleave_check_tChan)
 let h2:=put h1 2 (cellsOf Rows.laid_interleave_check_tInt)
 let h3:=put h2 3 (cellsOf Rows.laid_interleave_check_tBool)
 let h4:=put h3 4 (cellsOf Rows.laid_interleave_check_tNil)
 let h5:=put h4 5 (cellsOf Rows.laid_interleave_check_tFunc)
 let h6:=put h5 6 (cellsOf Rows.laid_interleave_check_tSlice)
 let h7:=put h6 7 (cellsOf Rows.laid_interleave_scan_operators)
 let h8:=put h7 8 #[.iface 165 (.pointer (some ⟨N,0,none⟩))]
 let h9:=put h8 9 #[.iface 165 (.pointer (some ⟨N+1,0,none⟩))]
 let h10:=put h9 10 (cellsOf Rows.laid_internal_strconv_uint64pow10)
 let h11:=put h10 11 (cellsOf Rows.laid_math_bits_deBruijn32tab)
 let h12:=put h11 12 (cellsOf Rows.laid_math_bits_deBruijn64tab)
 { w0 with heap:=h12 }
end Go.Proofs.YtmpfjifhkmdbaaaGreatDoor
namespace Go.Rk
open Go.Proofs
open Go Go.RowKit
def KR(z:Int):Prop := -9223372036854775808≤z∧z≤9223372036854775807
def Nx(t:Nd):Prop:=Jx (fun t l=>KR t.k∧KR t.num∧KR t.z∧KR t.ty.k∧KR t.ref∧KR t.up∧∀ p∈l,p) t
theorem uT(t:Nd):Nx t=(KR t.k∧KR t.num∧KR t.z∧KR t.ty.k∧KR t.ref∧KR t.up∧∀ p∈t.j.map Nx,p):=Lw _ t
def MC(t:Nd):Nat:=Jx (fun t l=>1+t.o.length+l.sum) t
theorem ZK(t:Nd):MC t=1+t.o.length+(t.j.map MC).sum:=Lw _ t
theorem sD:∀ t,count t≤MC t:=by
 refine Nd.ap fun t ih=>?_
 have:∀ (l:List Nd),(∀ k∈l,count k≤MC k)→(l.map count).sum≤(l.map MC).sum:=by
  intro l
  induction l with
  | nil=>intro _;simp
  | cons a l ihl=>intro h;have:=h a List.mem_cons_self;have:=ihl fun k hk=>h k (Lo _ hk);simp;omega
 rw [J7,ZK];have:=this t.j ih;omega
end Go.Rk
namespace Go.Rk
open Go.Proofs
open Go Go.RowKit Go.ChangeShapes Go.WideShapes
abbrev bulk{H:Type}:DataW H→Nat:=Go.Proofs.YtmpfjifhkmdbaaaGreatDoor.Rows.uptoBulk
abbrev KN{H:Type}:List (DataW H)→Nat:=Go.Proofs.YtmpfjifhkmdbaaaGreatDoor.Rows.uptoBulkAll
theorem Vv{H:Type}:∀ (l:List (DataW H)) (d:DataW H),d∈l→bulk d≤KN l
 | [],d,h=>by cases h
 | x::l,d,h=>by
  simp only [bulk,KN,Go.Proofs.YtmpfjifhkmdbaaaGreatDoor.Rows.uptoBulkAll];rcases Dr.1 h with rfl|h;omega;have:=Vv l d h;simp only [bulk,KN] at this;omega
theorem bQ{H:Type}:∀ (l m:List (DataW H)),KN (l++m)=KN l+KN m
 | [],m=>by simp [KN,Go.Proofs.YtmpfjifhkmdbaaaGreatDoor.Rows.uptoBulkAll]
 | x::l,m=>by
  have:=bQ l m;simp only [KN,List.cons_append,Go.Proofs.YtmpfjifhkmdbaaaGreatDoor.Rows.uptoBulkAll] at this ⊢;omega
theorem QJ:An.underlying 3=some (.int .i64):=Ag
theorem YP:An.underlying 9=some .string:=Ag
theorem fE:An.cellsOf 3=1:=Ag
theorem fC:An.cellsOf 9=1:=Ag
noncomputable def Q4(t:AD):Option (List (Nat×Nat)):=match An.underlying t with|some (.struct fs)=>some (fs.toList.map fun f=>(f.type,f.offset))|_=>none
theorem sG{t:AD}{L:List (Nat×Nat)}(hL:Q4 t=some L):∃ fs,An.underlying t=some (.struct fs):=by
 unfold Q4 at hL;split at hL;rename_i fs aa;exact ⟨fs,aa⟩;cases hL
theorem jW{α:Type}{l:List α}(h:l.length=2):∃ a b,l=[a,b]:=by
 match l,h with
 | [a,b],_=>exact ⟨a,b,rfl⟩
theorem Adf{α:Type}{l:List α}(h:l.length=8):∃ a b c d e f g i,l=[a,b,c,d,e,f,g,i]:=by
 match l,h with
 | [a,b,c,d,e,f,g,i],_=>exact ⟨a,b,c,d,e,f,g,i,rfl⟩
theorem zM{α:Type}{l:List α}(h:l.length=9):∃ a b c d e f g i j,l=[a,b,c,d,e,f,g,i,j]:=by
 match l,h with
 | [a,b,c,d,e,f,g,i,j],_=>exact ⟨a,b,c,d,e,f,g,i,j,rfl⟩
section
variable {H:Type} {enc:AD×AJ→H} {w:Ae} {base:Nat} {sp:Nat→Bool} {held:Bool}
theorem V6{t:AD}{L:List (Nat×Nat)}(hL:Q4 t=some L){aa:Nat}{cs:List AJ}{x:DataW H×List MemPlace}(h:DataW.trod enc An w base sp held aa t cs=some x) :
 ∃ (xs:List (DataW H×List MemPlace)) (n:Nat),x=(.agg (xs.map (·.1)),xs.flatMap (·.2))∧cs.length=An.cellsOf t∧xs.length=L.length∧
 ∀ (i ty o:Nat),L[i]? = some (ty,o)→DataW.trod enc An w base sp held n ty ((cs.drop o).take (An.cellsOf ty))=xs[i]?:=by
 unfold Q4 at hL;split at hL;rename_i fs ac;injection hL with hL;obtain ⟨xs,n,rfl,rfl,hl,ab,hx⟩:=DataW.trod_struct ac h;refine ⟨xs,n,rfl,hl,by rw [← hL,ab];simp,fun i ty o hi=>?_⟩;rw [← hL,List.getElem?_map] at hi
 cases hq:fs.toList[i]? with
 | none=>rw [hq] at hi;cases hi
 | some f =>
  rw [hq] at hi;simp only [Option.map_some,Option.some.injEq,Prod.mk.injEq] at hi;obtain ⟨rfl,rfl⟩:=hi;exact hx i f (by rw [← CR];exact hq)
 cases hL
theorem QH{z:Int}(h:(Lit.int .i64 z).wf=true):KR z:=by
 simp only [Lit.wf,CW,BM] at h;exact h
theorem yJ:Q4 24=some [(3,0),(9,1)]:=Ag
theorem bW:An.cellsOf 24=2:=Ag
theorem yB{aa:Nat}{cs:List AJ}{x:DataW H×List MemPlace}(h:DataW.trod enc An w base sp held aa 24 cs=some x):∃ y:Bo,cs=Ek y∧KR y.k∧y.name.length+1≤bulk x.1:=by
 obtain ⟨xs,n,rfl,hl,ab,hx⟩:=V6 yJ h;rw [bW] at hl;have h0:=hx 0 _ _ rfl;have h1:=hx 1 _ _ rfl;rw [fE] at h0;rw [fC] at h1;obtain ⟨v0,HW,rfl⟩:=jW hl;obtain ⟨y0,y1,rfl⟩:=jW ab;skip;simp only [FI,Kn,List.take_zero,Kv,L3,LX] at h0 h1;obtain ⟨z0,c0,rfl,w0⟩:=DataW.trod_int QJ h0;obtain ⟨s1,c1,rfl,_⟩:=DataW.trod_string YP h1;injection c0 with c0 _;injection c1 with c1 _;subst c0 c1;refine ⟨⟨z0,s1.data.toList⟩,rfl,QH w0,?_⟩;simp [bulk,Go.Proofs.YtmpfjifhkmdbaaaGreatDoor.Rows.uptoBulk,Go.Proofs.YtmpfjifhkmdbaaaGreatDoor.Rows.uptoBulkAll];omega
theorem UT:Q4 26=some [(3,0),(9,1),(3,2),(3,3),(22,4),(24,5),(3,7),(3,8)]:=Ag
theorem Yh:An.cellsOf 26=9:=Ag
theorem tP:An.cellsOf 22=1:=Ag
theorem qR:An.underlying 22=some (.slice 26):=Ag
theorem aH{w:Ae}{b:Nat}{D:Nat→Prop}:∀ (l:List Nd) (o:Nat),(∀ i,(h:i<l.length)→∃ v,CQ w b (o+i*9) (De l[i] v)∧Bv w D l[i].j v)→∃ xs,CQ w b o xs∧FC w D l xs
 | [],o,_=>⟨[],fun j v hj=>by simp at hj,rfl⟩
 | t::l,o,h=>by
  obtain ⟨v0,h0,k0⟩:=h 0 BR
  obtain ⟨xs,ih,kx⟩:=aH l (o+9) (fun i hi=>by
   obtain ⟨v,h1,h2⟩:=h (i+1) (by simpa using hi);rw [show o+(i+1)*9=o+9+i*9 by omega] at h1;exact ⟨v,by simpa using h1,by simpa using h2⟩)
  refine ⟨De t v0++xs,fun j v hj=>?_,Gw (by simpa using k0) kx⟩;by_cases hj9:j<9;rw [Ht (by simpa [De] using hj9)] at hj;exact h0 j v (by simpa using hj);rw [Hv (by simp [De];omega)] at hj;have:=ih (j-9) v (by simpa [De] using hj);rw [show o+9+(j-9)=o+j by omega] at this;exact this
theorem Ady:∀ (N fuel:Nat) (cs:List AJ) (x:DataW H×List MemPlace),bulk x.1≤N→DataW.trod enc An w base sp held fuel 26 cs=some x→
    ∃ (t:Nd) (v:AJ),cs=De t v∧Bv w (fun _=>True) t.j v∧Nx t∧MC t≤bulk x.1:=by
  intro N
  induction N with
  | zero =>
    intro fuel cs x hb h
    obtain ⟨xs,n,rfl,_⟩:=V6 UT h
    simp [bulk,Go.Proofs.YtmpfjifhkmdbaaaGreatDoor.Rows.uptoBulk] at hb
  | succ N ih =>
    intro fuel cs x hb h
    obtain ⟨xs,n,rfl,hl,az,hx⟩:=V6 UT h
    rw [Yh] at hl
    have h0:=hx 0 _ _ rfl
    have h1:=hx 1 _ _ rfl
    have h2:=hx 2 _ _ rfl
    have h3:=hx 3 _ _ rfl
    have h4:=hx 4 _ _ rfl
    have h5:=hx 5 _ _ rfl
    have h6:=hx 6 _ _ rfl
    have h7:=hx 7 _ _ rfl
    rw [fE] at h0 h2 h3 h6 h7
    rw [fC] at h1
    rw [tP] at h4
    rw [bW] at h5
    obtain ⟨v0,HW,v2,v3,v4,v5,a4,v6,v7,rfl⟩:=zM hl
    obtain ⟨y0,y1,y2,y3,y4,y5,y6,y7,rfl⟩:=Adf az
    · skip
      simp only [FI,Kn,List.take_zero,Kv,L3,LX] at h0 h1 h2 h3 h4 h5 h6 h7
      obtain ⟨z0,c0,rfl,w0⟩:=DataW.trod_int QJ h0
      obtain ⟨s1,c1,rfl,_⟩:=DataW.trod_string YP h1
      obtain ⟨z2,c2,rfl,w2⟩:=DataW.trod_int QJ h2
      obtain ⟨z3,c3,rfl,w3⟩:=DataW.trod_int QJ h3
      obtain ⟨z6,c6,rfl,w6⟩:=DataW.trod_int QJ h6
      obtain ⟨z7,c7,rfl,w7⟩:=DataW.trod_int QJ h7
      obtain ⟨y,cy,wy,_⟩:=yB h5
      injection c0 with c0 _; injection c1 with c1 _; injection c2 with c2 _; injection c3 with c3 _; injection c6 with c6 _; injection c7 with c7 _
      simp only [Ek,List.cons.injEq,and_true] at cy
      obtain ⟨au,aj⟩:=cy
      subst c0 c1 c2 c3 c6 c7 au aj
      have ap:bulk y4.1≤N:=by
        simp only [bulk,Go.Proofs.YtmpfjifhkmdbaaaGreatDoor.Rows.uptoBulk,Go.Proofs.YtmpfjifhkmdbaaaGreatDoor.Rows.uptoBulkAll,Ip,IH] at hb ⊢;omega
      have done:∀ (ks:List Nd),Bv w (fun _=>True) ks v4→(∀ k∈ks,Nx k)→(ks.map MC).sum≤bulk y4.1→
          ∃ (t:Nd) (v:AJ),[Value.int .i64 z0,.string s1,.int .i64 z2,.int .i64 z3,v4,.int .i64 y.k,Cg y.name,.int .i64 z6,.int .i64 z7]=De t v∧Bv w (fun _=>True) t.j v∧Nx t∧MC t≤bulk (DataW.agg (List.map (·.1) [((.lit (.int .i64 z0):DataW H),([]:List MemPlace)),(.lit (.string s1.data.toList),[]),(.lit (.int .i64 z2),[]),(.lit (.int .i64 z3),[]),y4,y5,(.lit (.int .i64 z6),[]),(.lit (.int .i64 z7),[])])):=by
        intro ks hk aw hc
        refine ⟨.mk z0 s1.data.toList z2 z3 ks y z6 z7,v4,rfl,hk,?_,?_⟩
        · rw [uT]
          refine ⟨QH w0,QH w2,QH w3,wy,QH w6,QH w7,fun p hp=>?_⟩
          obtain ⟨k,an,rfl⟩:=List.mem_map.1 hp
          exact aw k an
        · rw [ZK]
          simp only [bulk,Go.Proofs.YtmpfjifhkmdbaaaGreatDoor.Rows.uptoBulk,Go.Proofs.YtmpfjifhkmdbaaaGreatDoor.Rows.uptoBulkAll,Ip,IH] at hc ⊢
          show 1 + s1.data.toList.length + (ks.map MC).sum ≤ _
          omega
      rcases Go.Deep.open_slice qR h4 with ⟨e4,rfl⟩|⟨a,len,ai,m,n',D,IU,e4,a3,ay,a5,ax,rfl,ag⟩
      · injection e4 with e4 _
        subst e4
        exact done [] (Ob w _) (fun k hk=>by cases hk) (CC _)
      · injection e4 with e4 _
        subst e4
        have a2:len≤m:=by rw [ax];split <;> omega
        rw [Yh] at ag
        have a1:KN ((Ez len).map D)+1≤bulk (DataW.slice ((Ez len).map D) ((Ez (m-len)).map fun j=>D (len+j))):=by
          simp only [bulk,KN,Go.Proofs.YtmpfjifhkmdbaaaGreatDoor.Rows.uptoBulk];omega
        have ac:∀ k,k≤len→∃ l:List Nd,l.length=k∧(∀ i,(h:i<l.length)→∃ v,w.cells? base (a.add (i*9)) 9=some (De l[i] v)∧Bv w (fun _=>True) l[i].j v)∧(∀ t∈l,Nx t)∧(l.map MC).sum≤KN ((Ez k).map D):=by
          intro k
          induction k with
          | zero=>intro _;exact ⟨[],rfl,fun i hi=>by simp at hi,fun t ht=>(by cases ht),CC _⟩
          | succ k ihk =>
            intro hk
            obtain ⟨l,aa,ab,ad,ah⟩:=ihk O
            obtain ⟨al,q1,q2⟩:=ag k O
            have ao:bulk (D k)≤N:=by
              have:=Vv ((Ez len).map D) (D k) (List.mem_map_of_mem (List.mem_range.2 O))
              simp only [] at ap; omega
            obtain ⟨t,v,rfl,kt,ot,ct⟩:=ih n' al _ ao q2
            refine ⟨l++[t],by simp [aa],fun i hi=>?_,fun u hu=>?_,?_⟩
            · by_cases hik:i<l.length
              · obtain ⟨v',AU,e2⟩:=ab i hik
                rw [List.getElem_append_left hik];exact ⟨v',AU,e2⟩
              · have ak:i=l.length:=by simp at hi;omega
                subst ak
                rw [List.getElem_append_right (AA _)]
                simp only [Nat.sub_self,List.getElem_cons_zero]
                exact ⟨v,by rw [aa];exact q1,kt⟩
            · rcases List.mem_append.1 hu with hu | hu
              · exact ad u hu
              · rw [List.mem_singleton.1 hu]; exact ot
            · rw [List.range_succ,Iz,Iz,List.sum_append,bQ]
              have:KN (List.map D [k])=bulk (D k):=by simp [KN,bulk,Go.Proofs.YtmpfjifhkmdbaaaGreatDoor.Rows.uptoBulkAll]
              rw [this];simp only [Ip,IH,List.sum_cons,List.sum_nil];simp only [] at ct;omega
        obtain ⟨l,aa,ab,ad,ah⟩:=ac len (AA _)
        refine done l ⟨some a,ai,by rw [aa],by rw [aa];exact ay,fun af=>?_⟩ ad (by simp only [] at ah a1 ⊢;omega)
        obtain ⟨v0,h0,_⟩:=ab 0 af
        obtain ⟨_,_,am⟩:=World.cells?_some h0
        have hc:=am 0 O
        have ae:a.spot=none:=by
          cases hq:a.spot with
          | none=>rfl
          | some y =>
            have:w.cell? ((a.add (0*9)).add 0)=none:=by
              unfold World.cell?
              split
              · simp [Addr.add,hq]
              · rfl
            rw [this] at hc; simp [De] at hc
        have ha:a=⟨a.block,a.off,none⟩:=by cases a;simp only at ae;rw [ae]
        obtain ⟨aq,r1,r2⟩:=aH (w:=w) (b:=a.block) (D:=fun _=>True) l a.off (fun i hi=>by
          obtain ⟨v,AU,e2⟩:=ab i hi
          refine ⟨v,?_,e2⟩
          obtain ⟨_,_,av⟩:=World.cells?_some AU
          intro j u hj
          have ar:j<9:=by have:=(List.getElem?_eq_some_iff.mp hj).1;simpa [De] using this
          have:=av j ar
          rw [hj] at this
          rw [← this]
          congr 1
          rw [ha,Addr.add_lit,Addr.add_lit])
        exact ⟨a.block,a.off,by rw [ha],Cc,aq,r1,r2⟩
theorem Aau{r:Reach}{b0:Nat}{v:AJ}{d:DataW H}{p:List MemPlace}(hv:Value.okWide An w r b0 26 v)(h:DataW.Trod enc An w base sp held 26 v d p):∃ (t:Nd) (u:AJ),v=Cd t u∧Bv w (fun _=>True) t.j u∧Nx t∧MC t≤bulk d:=by
 obtain ⟨fs,ab⟩:=sG UT;obtain ⟨cs,rfl,_⟩:=okWide_struct ab hv;obtain ⟨aa,hf⟩:=h;obtain ⟨t,u,ht,h1,h2,h3⟩:=Ady _ aa _ _ (AA _) hf;refine ⟨t,u,?_,h1,h2,h3⟩;show Value.agg cs=Value.agg (De t u).toArray;rw [← ht];simp [Value.cells]
theorem xA{r:Reach}{b0:Nat}{v:AJ}{d:DataW H}{p:List MemPlace}(hv:Value.okWide An w r b0 26 v)(h:DataW.Trod enc An w base sp held 26 v d p):∃ (t:Nd) (u:AJ),v=Cd t u∧Bv w (fun _=>True) t.j u∧Nx t∧count t≤bulk d:=by
 obtain ⟨t,u,h1,h2,h3,h4⟩:=Aau hv h;exact ⟨t,u,h1,h2,h3,Ao (sD t) h4⟩
end
end Go.Rk
namespace Go.Rk
open Go.Proofs
open Go Go.RowKit
def JZ(a e:Int):Bf:=⟨.iface 48 (.agg #[.int .i64 a,.int .i64 e]),false,false⟩
theorem tK(a e:Int)(w:Ae):Gg An 59 #[.int .i64 a,.int .i64 e] w (fun _ _=>False) (fun ch w'=>ch=[JZ a e]∧G w w'):=by
 have g:=G.refl w;refine JM (m:=8) Tryz.func59 J J [(0,True,_),(1,True,_)] Bp ?_;refine nH (k:=4) [3,3,3,3,2] J J J ?_;refine Ap J (Ap J (Hg jG Yy (Bk J (Bk J CH)) J J (AR J (fun _=>rG wP (Ab J)) (Ai (zI (Ab J) ?_)))));exact ⟨rfl,g⟩
theorem GS(q:Bool)(a e:Int)(w:Ae):Gg An 32 #[.bool q,.int .i64 a,.int .i64 e] w (fun r w'=>r = .tuple #[]∧q=true∧G w w') (fun ch w'=>q=false∧ch=[JZ a e]∧G w w'):=by
 have g:=G.refl w;refine JM (m:=11) Tryz.func32 J J [(0,True,_),(1,True,_),(2,True,_)] Bp ?_;refine Am (Au (Ap J (Sd J (Ai (Al (Cv J (fun h1=>?_) (fun h1=>?_)))))));have h1:q=false:=by cases q;rfl;cases h1
 refine Au (Ap J (Ap J (?_)));exact Qe rfl (BF Aaq BX (Cn rfl (Cn rfl CI)) rfl) (tK a e _) ((fun ch w' hz=>⟨h1,hz.1,g.trans hz.2⟩)) (fun _ _ h=>h.elim);have h1:q=true:=by cases q;cases h1;rfl
 refine CJ (Hh J ?_);exact ⟨rfl,h1,g⟩
theorem Ls(t:Nd)(p:Option Addr)(c:Nat)(w:Ae):Bz An 30 #[Cd t (.slice p t.j.length c)] w fun r w'=>r=Cd (DJ t) (.slice none 0 0)∧G w w':=by
 have g:=G.refl w;refine JB (m:=23) Tryz.func30 J J [(0,True,_)] Bp ?_;refine Am (Au (Jr J (Ab J) J ?_));intro b1 w1 N1;have l1:=N1.ge g;have g:=g.trans N1.g;have E:=(IQ _).new N1;refine En J Cp J ?_;intro b2 w2 N2;have l2:=N2.ge g;have g:=g.trans N2.g;replace E:=E.new N2;refine Ai (Al (Am (Au (AE FP J (AM Cb J (E.U.y J) (AE E2 J (AM DW J (E.U.y J) (AE H7 J (AM Cb J (E.U.y J) (Hg Cp MV (Bk J (Bk J (Bk J CH))) J J (En J Cp J ?_)))))))))));intro b3 w3 N3;have l3:=N3.ge g;have g:=g.trans N3.g;replace E:=E.new N3;refine FH Fm J J J E.J ?_;intro ah aa _ BS;replace E:=E.s0 aa BS;have g:=BJ g aa O;refine Ai (Al (Am (Am (Au (AE FP J (AM Cb J (E.g2.y J) (Fy J J (Ap J (Ay J J J (fun _=>AB FP (Ab J)) (BQ J J J (AZ Cb (Ah J id) (fun _=>E.g2.y J)) (Ay J J J (fun _=>Gk (Ah J id) Bd) (AR J (fun _=>FR (Ab J) (Ah J id)) (Ai (Al (Cv J (fun h1=>?_) (fun h1=>?_))))))))))))))));have e:F1 t=t.num:=by unfold F1 Ie;rw [show (Ac (t.k=24) || Ac (t.k=25))=true from h1];rfl
 refine Au (AE Ku J (AM Cb J (E.g2.y J) (AE Ku J (Jl I2 J J J E.J ?_))));intro ag ac _ BS;replace E:=E.s0 ac BS;have g:=BJ g ac O;refine Ai (Al (Am (Au (Ct A3 J J E.J.row (FH Fm J J J E.U ?_)))));intro ae ad _ BS;replace E:=E.s1 ad BS;have g:=BJ g ad O;refine Ai (Al (Dl (LJ J (GJ J A3 J (E.U.row) (GD)) ?_)));refine ⟨?_,g⟩;unfold DJ;rw [e];rfl;have e:F1 t=0:=by unfold F1 Ie;rw [show (Ac (t.k=24) || Ac (t.k=25))=false from h1];rfl
 refine CJ (Al (Am (Au (Ct A3 J J E.J.row (FH Fm J J J E.U ?_)))));intro af ab _ BS;replace E:=E.s1 ab BS;have g:=BJ g ab O;refine Ai (Al (Dl (LJ J (GJ J A3 J (E.U.row) (GD)) ?_)));refine ⟨?_,g⟩;unfold DJ;rw [e];rfl
theorem Agi:∀ (t:Nd) (v:AJ) (D:Nat→Prop) (w:Ae),Bv w D t.j v→count t≤1000000→Bz An 53 #[Cd t v] w fun r w'=>Ii (BP t) w.heap.size r w'∧G w w':=by
 refine Nd.ap fun t ih v D w hk hc=>?_;have aw:=ED t;obtain ⟨p,c,rfl,ax,aq⟩:=hk;have g:=G.refl w;refine JB (m:=24) Tryz.func53 J J [(0,True,_)] Bp ?_;refine Am (Au (Jr J (Ab J) J ?_));intro b1 w1 N1;have l1:=N1.ge g;have g:=g.trans N1.g;have E:=(IQ _).new N1;refine En J Cp J ?_;intro b2 w2 N2;have l2:=N2.ge g;have g:=g.trans N2.g;replace E:=E.new N2;refine Ai (Al (Am (Au (Ct A3 J J E.U.row (EB J (BF XH BX (Cn J CI) J) (Ls t _ _ _) ?_)))));rintro v7 w7 ⟨rfl,g7⟩;refine Ev g7 fun g=>?_;replace E:=E.A g7;refine En J Cp J ?_;intro b3 w3 N3;have l3:=N3.ge g;have g:=g.trans N3.g;replace E:=E.new N3;refine FH Fm J J J E.J ?_;intro a5 af _ BS;replace E:=E.s0 af BS;have g:=BJ g af O;refine Ai (Al (Am (Am (Au (?_)))));rw [show De (DJ t) (.slice none 0 0)=De (BP t) (.slice none 0 0) by rw [U1];rfl] at E;refine AE AY J (AM Bh J (E.g2.y J) (EI AC J (Ap J (Ai (Al (DF (?_)))))));have ai:=E.1;refine GR (fun (i:Nat) u1=>(i≤t.j.length∧∃ s,Ax u1 b3 26 (De (BP t) s)∧Dp [b1,b2,b3] w.heap.size u1 ((t.j.take i).map BP) s)∧G w u1) _ [(2,True,_),(3,True,_),(9,True,_),(10,True,_)] (fun (i:Nat)=>[(11,True,.int .i64 i)]) (fun (i:Nat)=>t.j.length-i) (0) ⟨⟨CC _,_,E.J,Kr _ _ _⟩,g⟩ (A6 (A7 E.g2) (A6 (A7 E.U) (Di _))) Bp ?_;clear E;rintro i u1 ⟨ar,an⟩ ⟨B1,B2,_⟩;replace B1:Ax _ _ _ _:=B1;replace B2:Ax _ _ _ _:=B2;have g:=an;obtain ⟨hi,s,B3,hO⟩:=ar;obtain ⟨sa,sc,rfl⟩:=hO.slice;have E:=GX (L:=[(b3,_,_),(b2,_,_),(b1,_,_)]) ai ⟨B3,B2,B1,Cc⟩ rfl
 refine Am (Au (GG J J (Ai (Al (Am (Cv J (fun h1=>?_) (fun h1=>?_)))))));have h2:i<t.j.length:=by simp only [BM] at h1;omega
 obtain ⟨b,o,rfl,hD,xs,hR,hX⟩:=aq O;obtain ⟨p',c',hcell,ak⟩:=JD hR hX h2;have ay:=KG h2;have a6:=ED t.j[i];have hu:=g.size;refine CJ (Al (Am (DF (Am (Au (Hn AC J J O (Ct A3 J J (hcell.A g) (En J Cp J ?_))))))));intro b5 w5 N5;have l5:=N5.ge g;have hO:=hO.new N5;have g:=g.trans N5.g;replace E:=E.new N5;refine FH Fm J J J E.J ?_;intro av aa _ BS;replace E:=E.s0 aa BS;have g:=BJ g aa O;have hO:=hO.C aa BR;refine Ai (Al (Dj [3,0,0,1,1,2,3,2] ?_));refine FY fun g E=>?_;have hO:=hO.A (G.drew _);obtain ⟨z5,ao⟩:∃ z,(av.drew).heap.size=z:=⟨_,rfl⟩;have am:=E.g3.lt;have au:=E.g2.lt;have al:=E.U.lt;have ap:=E.J.lt;have aj:=hO.lt;refine AE AY J (AM Bh J (E.U.y J) (Ct A3 J J E.J.row (EB J (BF iM BX (Cn J CI) J) (ih _ (GN h2) _ _ _ (ak.A g) O) ?_)));rintro a1 bb ⟨⟨p2,c2,rfl,ac⟩,ah⟩;refine Ev ah fun g=>?_;have ac:=Gb.bp (lo':=z5) ac (E8 ao.symm);replace E:=E.A ah;have hO:=hO.A (ah);refine Fe _ J AC Cp (Bk J CH) J J ?_;intro ba az ae;have a2:=ae.ge g;have hO:=hO.new ae;have g:=g.trans ae.g;replace E:=E.new ae;have ac:=ac.A ae.g;have hO:=hO.sub (Y:=[b1,b2,b3]) DZ;have hOo:=hO
 refine Hx J AC Cp J (Ab J) hO (Ab J) J E.J.row (DG (Bv.mono ac fun k hk _=>⟨⟨⟨by have:=hk.1;omega,by have:=hk.1;simp;omega⟩,hk.2⟩,fun he=>by have:=aj k he.symm;have:=hk.1;omega⟩)) (by simp;omega) Dn ⟨by have:=g.size;omega,by have q1:=E.g4.lt;have q2:=E.g3.lt;have q3:=E.g2.lt;simp;omega⟩ ?_;intro a8 a9 a4 hO ag;replace E:=E.sel [false,false,true,true,true];replace E:=E.ab ag hOo.ne Br;have g:=Nj g ag Fo;refine AE AY J (Jl Me J J J E.J ?_);intro a7 ad _ BS;replace E:=E.s0 ad BS;have g:=BJ g ad O;have hO:=hO.C ad BR;refine Ai (Al (Au (H2 J J O (Ap J (EV [(11,_,_),(2,_,_),(3,_,_),(9,_,_),(10,_,_)] Bp (Ai (fun a ha=>?_)))))));exact ⟨i+1,ha,⟨⟨h2,_,E.J,by rw [SM h2,Iz];exact hO.sub DZ⟩,g⟩,(A6 (A7 E.g2) (A6 (A7 E.U) (Di _))),O⟩;have h2:i=t.j.length:=by simp only [CB] at h1;omega
 subst h2;rw [GZ] at hO E;refine L7 J (Al (Am (Au (Ct A3 J J E.J.row (FH Fm J J J E.U ?_)))));intro a3 ab _ BS;replace E:=E.s1 ab BS;have g:=BJ g ab O;have hO:=hO.C ab BR;refine Ai (Al (Dl (LJ J (GJ J A3 J (E.U.row) (GD)) ?_)));exact ⟨TV (by rw [PX];exact hO.kd),g⟩
theorem Qr(t:Nd)(p:Option Addr)(c:Nat)(w:Ae)(hL:Laid w)(ae:10≤w.heap.size)(ad:NW w)(ac:t.j.length≤1000000):Bz An 51 #[Cd t (.slice p t.j.length c)] w fun r w'=>r=D7 (Bx t).1∧G w w':=by
 have g:=G.refl w;refine JB (m:=11) Tryz.func51 J J [(0,True,_)] Bp ?_;refine Am (Au (Jr J (Ab J) J ?_));intro b1 w1 N1;have l1:=N1.ge g;have g:=g.trans N1.g;have E:=(IQ _).new N1;refine En J FF J ?_;intro b2 w2 N2;have l2:=N2.ge g;have g:=g.trans N2.g;replace E:=E.new N2;refine Ai (Al (Am (Au (Ct A3 J J E.U.row (EB J (BF ZW BX (Cn J CI) J) (iS t _ _ _ (hL.A g) Dn (ad.A g) ac) ?_)))));rintro v7 w7 ⟨rfl,g7⟩;refine Ev g7 fun g=>?_;replace E:=E.A g7;refine Ap J (FJ J J (FJ J J (En J FF J ?_)));intro b3 w3 N3;have l3:=N3.ge g;have g:=g.trans N3.g;replace E:=E.new N3;refine FH ET J J J E.J ?_;intro ag aa _ BS;replace E:=E.s0 aa BS;have g:=BJ g aa O;refine Bj J (Ai (Al (Am (Au (Ct Cf J J E.J.row (FH ET J J J E.U ?_))))));intro af ab _ BS;replace E:=E.s1 ab BS;have g:=BJ g ab O;refine Ai (Al (Dl (LJ J (GJ J Cf J (E.U.row) (GD)) ?_)));exact ⟨rfl,g⟩
def Pr(b L:Nat)(w:Ae):Prop:=∃ F fv ms mg mn mf a n c cv rv,Ax w b 59 (LS F fv ms mg mn mf (.slice a n c) cv rv)∧L≤n∧n≤c∧n≤2000000
def Dm(n0 b:Nat)(X:List Nat)(L:Nat)(T:Ak)(w:Ae)(ch:List Bf)(w':Ae):Prop:=ch=[JZ T.ea T.ee]∧T.ee≠0∧Pr b L w'∧AP (CE X) n0 w w'
section
variable {F:Nd} {n0 b:Nat} {TB X:List Nat} {r0:Option (List Bo)} {S:Ak} {w w':Ae}
theorem Pr.A{L:Nat}(h:Pr b L w)(g:G w w'):Pr b L w':=by
 obtain ⟨F,fv,ms,mg,mn,mf,a,n,c,cv,rv,hB,h1⟩:=h;exact ⟨F,fv,ms,mg,mn,mf,a,n,c,cv,rv,hB.A g,h1⟩
theorem CA.alive(h:CA F n0 b TB X r0 S w):Pr b (S.w+1) w:=by
 obtain ⟨fv,ms,mg,mn,mf,pv,sv,cv,rv,vs,sc,h⟩:=h;obtain ⟨a,c,rfl,hc⟩:=IJ h.so;exact ⟨F,fv,ms,mg,mn,mf,a,_,c,cv,rv,h.B,by rw [h.sr.len,h.sl];exact AA _,hc,by rw [h.sr.len];exact h.sz⟩
theorem LB(he:S.ee=0)(a e:Int):AG false a e S = { S with ea:=a,ee:=e }:=by
 show DV a e S=_;unfold DV;rw [BU he];rfl
theorem IC{T:Ak}{q:Bool}{a e:Int}{ch:List Bf}{w0 w1:Ae}{L:Nat}(h:CA F n0 b TB X r0 S w)(he:S.ee=0)(hn:e≠0)(hE:Bg (AG q a e S) T)(hz:q=false∧ch=[JZ a e]∧G w w1)(g:AP (CE X) n0 w0 w)(hL:L≤S.w+1):Dm n0 b X L T w0 ch w1:=by
 obtain ⟨rfl,rfl,g1⟩:=hz;rw [LB he] at hE;obtain ⟨h2,h1⟩:=hE hn;refine ⟨by rw [h1,h2],by rw [h2];exact hn,?_,BZ g g1⟩;obtain ⟨F,fv,ms,mg,mn,mf,a,n,c,cv,rv,hB,h3,h4⟩:=h.alive.A g1;exact ⟨F,fv,ms,mg,mn,mf,a,n,c,cv,rv,hB,Ao hL h3,h4⟩
theorem Dm.pass{T U:Ak}{X':List Nat}{L L':Nat}{ch:List Bf}{w0:Ae}(h:Dm n0 b X' L' T w ch w')(hE:Bg T U)(hL:L≤L')(g:AP (CE X) n0 w0 w)(hX:∀ j∈X,j∈X':=by intro j hj;simp [hj]):Dm n0 b X L U w0 ch w':=by
 obtain ⟨h1,h2,⟨F,fv,ms,mg,mn,mf,a,n,c,cv,rv,hB,h3,h4⟩,h5⟩:=h;obtain ⟨AU,e2⟩:=hE h2;exact ⟨by rw [h1,AU,e2],by rw [AU];exact h2,⟨F,fv,ms,mg,mn,mf,a,n,c,cv,rv,hB,Ao hL h3,h4⟩,Hc g h5 hX⟩
end
theorem Agm(F:Nd)(s:List UInt8):(GW (DR 2 (fun _ _=>Value.bool true) F.j 0) s).getD (.bool false) = .bool (!Ac ((A9 F 2 s).2<0)):=by
 rw [P5];unfold A9;rcases Xf 2 s F.j 0 with h|h;rw [h];rfl;have h:0≤(GI 2 s F.j 0).2:=h;rw [BU h,Aq (Int.not_lt.2 h)];rfl
theorem Ma:An.underlying 9=some .string:=Ag
theorem SQ:An.underlying 51=some (.map 9 4):=Ag
theorem V2:An.underlying 52=some (.map 9 24):=Ag
theorem Z5:An.underlying 53=some (.map 9 3):=Ag
theorem SZ:An.underlying 54=some (.map 9 61):=Ag
theorem Xc{n:Nat}{σ:List Ce}{c:Prop}{wb:Ae}{ty b:Nat}{x y:Operand}{F:Nd}{s:List UInt8}(h:Do wb b (DR 2 (fun _ _=>Value.bool true) F.j 0))(hx:BI n σ c x (.map (some b)))(hy:BI n σ c y (Cg s)) :
 Db An n σ c wb (.lookup 51 x y false) ty (.bool (!Ac ((A9 F 2 s).2<0))):=by
 rw [← Agm F s];exact XN Ma SQ Wc h hx hy
theorem LK(F n:Nd)(S:Ak):I5 F n S=AG (!Ac (n.k=8) || !Ac ((A9 F 2 n.o).2<0)) n.z 5 S:=by
 unfold I5;cases Ac (n.k=8) <;> rfl
theorem oA{F:Nd}{n0 b:Nat}{TB X:List Nat}{r0:Option (List Bo)}{S:Ak}{w:Ae}(t:Nd)(p:Option Addr)(c:Nat)(h:CA F n0 b TB X r0 S w):Gg An 52 #[.pointer (some ⟨b,0,none⟩),Cd t (.slice p t.j.length c)] w (fun r w'=>r = .tuple #[]∧(!Ac (t.k=8) || !Ac ((A9 F 2 t.o).2<0))=true∧G w w') (fun ch w'=>(!Ac (t.k=8) || !Ac ((A9 F 2 t.o).2<0))=false∧ch=[JZ t.z 5]∧G w w'):=by
 obtain ⟨fv,ms,mg,mn,mf,pv,sv,cv,rv,vs,sc,h⟩:=h;have g:=G.refl w;refine JM (m:=19) Tryz.func52 J J [(0,True,_),(1,True,_)] Bp ?_;refine Am (Au (Jr J (Ab J) J ?_));intro b3 w3 N3;have l3:=N3.ge g;have g:=g.trans N3.g;have E:=(IQ _).new N3;refine Ai (Al (Dx (Ej none) [3,0,3,3,3,3,3,0,3,0,0,3,3,0,1] [0,1,3,7,15,31,63,127,15,271,1023,2047,0,4096,16383] CG Ag [0,1,2,3,4,5,6,7,8,9,10,11,12,13,14] J ?_));refine FY fun g E=>?_;refine As 0 J J (fun _=>AB FP (Ab J)) (Bb 1 J J (fun w1 hx=>AZ Cb (Ab J) (fun _=>(E.J.C hx DD).y J)) (As 2 J J (fun _=>IA (Ab J) Bd) (As 3 J J (Bm J) (GO (L':=[5,6,7,8,9,10,11,12,13,14]) 4 J J J J J (Bm J) (GO (L':=[6,7,8,9,10,11,12,13,14]) 5 J J J J J (fun _=>FZ (Ah J id)) (GO (L':=[7,8,9,10,11,12,13,14]) 6 J J J J J (fun _=>AB Uy (Ah J id)) (J2 (L':=[8,9,10,11,12,13,14]) 7 J J J J J (fun w1 hx=>AZ TU (Ah J id) (fun _=>((h.B.A g).C hx DD).y J)) (GO (L':=[9,10,11,12,13,14]) 8 J J J J J (fun _=>AB E2 (Ab J)) (J2 (L':=[10,11,12,13,14]) 9 J J J J J (fun w1 hx=>AZ DW (Ah J id) (fun _=>(E.J.C hx DD).y J)) (J2 (L':=[11,12,13,14]) 10 J J J J J (fun w1 hx=>Xc ((h.T.hs.A g).C hx DD) (Ah J id) (Ah J id)) (As 11 J J (fun _=>FR (Ab J) (Ah J id)) (As 12 J J (fun _=>AB H7 (Ab J)) (Bb 13 J J (fun w1 hx=>AZ Cb (Ab J) (fun _=>(E.J.C hx DD).y J)) (AW 14 J J ?_))))))))))))));refine Bt (L':=[]) [3,0,3,3,3,3,3,0,3,0,0,3,3,0,1] J J J ?_
 refine Qe J (BF G1 BX (Cn J (Cn J (Cn J CI))) J) (GS _ _ _ _) ((fun ch w' hz=>⟨hz.1,hz.2.1,g.trans hz.2.2⟩)) ?_;rintro ac ab ⟨rfl,hq,aa⟩;refine Ev aa fun g=>?_;replace E:=E.A aa;refine Bs ((aa).O _) ?_;refine Ke [] (M3 _) (FW (Hh J ?_));exact ⟨rfl,hq,g⟩
theorem Vy{F:Nd}{n0 b:Nat}{TB X:List Nat}{r0:Option (List Bo)}{S:Ak}{w:Ae}(t:Nd)(p:Option Addr)(c:Nat)(h:CA F n0 b TB X r0 S w)(he:S.ee=0)(hl:t.j.length≤1000000):Gg An 55 #[.pointer (some ⟨b,0,none⟩),Cd t (.slice p t.j.length c)] w (fun r w'=>r=D7 (Bx t).1∧DS F t S=S∧G w w') (Dm n0 b X (S.w+1) (DS F t S) w):=by
 have g:=G.refl w;refine JM (m:=17) Tryz.func55 J J [(0,True,_),(1,True,_)] Bp ?_;refine Am (Au (Jr J (Ab J) J ?_));intro b3 w3 N3;have l3:=N3.ge g;have g:=g.trans N3.g;have E:=(IQ _).new N3;refine En J FF J ?_;intro b4 w4 N4;have l4:=N4.ge g;have g:=g.trans N4.g;replace E:=E.new N4;refine Ai (Al (Am (Au (Ap J (Ct A3 J J E.U.row (Qe J (BF UV BX (Cn J (Cn J CI)) J) (oA t _ _ (h.A g)) ((fun ch w' hz=>IC (h.A g) he BT (by unfold DS;rw [LK];exact (Bg.refl _).I _ _ _) hz (AP.Y g) (AA _))) ?_))))));rintro v8 w8 ⟨rfl,hq,g8⟩;refine Ev g8 fun g=>?_;replace E:=E.A g8;refine Ai (Al (Am (Au (Ct A3 J J E.U.row (EB J (BF rI BX (Cn J CI) J) (Qr t _ _ _ ((h.A g).laid).hL ((h.A g).laid).hb ((h.A g).laid).hT hl) ?_)))));rintro ak ag ⟨rfl,ae⟩;refine Ev ae fun g=>?_;replace E:=E.A ae;refine En J FF J ?_;intro b5 w5 N5;have l5:=N5.ge g;have g:=g.trans N5.g;replace E:=E.new N5;refine FH ET J J J E.J ?_;intro ah ab _ BS;replace E:=E.s0 ab BS;have g:=BJ g ab O;refine Ai (Al (Am (Dx (Ej none) [0,1,3,0,1] [0,1,0,4,15] CG Ag [0,1,2,3,4] J ?_)));refine FY fun g E=>?_;refine Bb 0 J J (fun w1 hx=>A8 Cf (Ab J) J (fun _=>(E.J.C hx DD).row)) (As 2 J J (fun _=>AB H7 (Ab J)) (Bb 3 J J (fun w1 hx=>AZ Cb (Ab J) (fun _=>(E.g2.C hx DD).y J)) (AW 1 J J ?_)));refine Bt (L':=[4]) [0,1,3,0,1] J J J ?_;refine EB J (BF Yt BX (Cn J CI) J) (Px (Bx t).1 _ ((h.A g).laid).hL ((h.A g).laid).hb) ?_;rintro am aj ⟨rfl,ad⟩;refine Ev ad fun g=>?_;replace E:=E.A ad;refine Bs ((ad).O _) ?_
 refine AW 4 J J ?_;refine Bt (L':=[]) [0,1,3,0,1] J J J ?_;refine Qe J (BF G1 BX (Cn J (Cn J (Cn J CI))) J) (GS _ _ _ _) ((fun ch w' hz=>IC (h.A g) he BT (by unfold DS;rw [LK,hq];exact Bg.refl _) hz (AP.Y g) (AA _))) ?_;rintro al ai ⟨rfl,af,ac⟩;refine Ev ac fun g=>?_;replace E:=E.A ac;refine Bs ((ac).O _) ?_;refine Ke [(4,_,_),(5,_,_)] Bp (FW (Al (Am (Au (Ct Cf J J E.J.row (FH ET J J J E.U ?_))))));intro an aa _ BS;replace E:=E.s1 aa BS;have g:=BJ g aa O;refine Ai (Al (Dl (LJ J (GJ J Cf J (E.U.row) (GD)) ?_)));refine ⟨rfl,?_,g⟩;unfold DS;rw [LK,hq,af];rfl
section
variable {F:Nd} {n0 b:Nat} {TB X:List Nat} {r0:Option (List Bo)} {S:Ak} {fv:AJ} {ms mg mn mf:Nat} {pv:Nat→AJ} {sv cv rv:AJ} {vs:List AJ} {sc:List (List Dz)} {w w' w1 w2:Ae}
theorem fX{e k:Nat}(he:Ka e=true)(hx:k∉X):CE X e k=true:=by
 unfold CE;rw [he,Aq hx];rfl
theorem NE{e:AD}{z m:Nat}{v:AJ}{xs:List AJ}(hO:w.ownsRow n0 e z v m xs)(he:Ka e=true)(hx:∀ k,v.ownBlock=some k→k∉X)(hg:w.grownBy w' v.ownBlock):AP (CE X) n0 w w' :=
 ⟨hg.os,hg.tape,hg.output,hg.size,fun k hk hb=>hg.block k hk fun e'=>by
 obtain ⟨_,⟨cs,f,fr,h1,h2⟩,h3⟩:=Si hO he hx k e'.symm;rcases hb with hb|hb;have:=(hO.lt k e'.symm).1;omega;exact hb ⟨cs,f,fr,h1,fX h2 h3⟩⟩
theorem J4{e:AD}{l:List AJ}(hB:Ax w b e l)(he:Ka e=true)(hb:n0≤b)(hx:b∉X)(hg:w.grownBy w' (some b)):AP (CE X) n0 w w' :=
 ⟨hg.os,hg.tape,hg.output,hg.size,fun k hk hq=>hg.block k hk fun e'=>by
 injection e' with e';subst e';rcases hq with hq|hq;omega;exact hq ⟨_,_,_,hB,fX he hx⟩⟩
theorem RY{e e':AD}{z m:Nat}{v:AJ}{xs:List AJ}(h:w.ownsRow n0 e z v m xs)(he:A2 e e'=false):∀ k,v.ownBlock=some k→¬ LZ (fun x _=>A2 x e') w k:=fun k hk ⟨cs,f,fr,h1,h2⟩=>by
 rcases h.2 with ⟨q,_⟩|⟨g,aa,ab,q,_,h3,_⟩;rw [q] at hk;cases hk;rw [q] at hk;have:g=k:=by injection hk
 subst this;rw [h1] at h3;injection h3 with h3;injection h3 with _ h3;subst h3;have h2:A2 _ e'=true:=h2;rw [he] at h2;cases h2
theorem EX.ba(h:EX F n0 b TB X r0 S fv ms mg mn mf pv sv cv rv vs sc w)(g:AP (CE X) n0 w w'):Bv w' (fun k=>k<n0) F.j fv∧QP F TB ms mg mn mf pv w'∧G7 n0 w'∧∀ j∈X,j<w'.heap.size:=by
 have hB:Below n0 w w':=⟨g.os,g.tape,g.output,g.size,fun k hk=>g.block k (Eo hk h.L.hn) (.inl hk)⟩
 have m:∀ {k es},Do w k es→Do w' k es:=fun hm=>hm.ac (g.block _ hm.lt (.inr fun ⟨cs,e,fr,h1,_⟩=>by
  obtain ⟨ms,c,hb,_⟩:=hm;rw [hb] at h1;injection h1 with h1;cases h1))
 refine ⟨HQ h.kF (fun _ h _=>h) (fun k hk _=>hB.block k hk),⟨m h.T.hs,m h.T.hg,m h.T.hn,m h.T.hf,fun s hs=>(h.T.hp s hs).ac fun k hk aa _=>g.block k aa (.inr fun ⟨cs,e,fr,h1,h2⟩=>?_)⟩,h.L.below hB,fun j hj=>Eo (h.xl j hj) g.size⟩;unfold CE at h2;rw [BU (h.tx k hk)] at h2;simp at h2
theorem EX.bv(h:EX F n0 b TB X r0 S fv ms mg mn mf pv sv cv rv vs sc w){sv':AJ}{vs':List AJ}{sc':List (List Dz)}{S':Ak}(hg:w.grownBy w1 sv.ownBlock)(ho:w1.ownsRow n0 82 1 sv' vs'.length vs')
 (ad:∀ k,sv'.ownBlock=some k→sv.ownBlock=some k∨w.heap.size≤k) (aa:w1.grownBy w2 (some b)) (ac:Ax w2 b 59 (LS F fv ms mg mn mf sv' cv rv)) (ae:G2 84 n0 w vs' sc')
 (ab:∀ (i:Nat) (v:AJ),vs'[i]? = some v→∀ k,v.ownBlock=some k→k∉X) (fl:sc'.flatten=S'.F) (sl:sc'.length=S'.w+1) (ss:∀ (i:Nat) (l:List Dz),sc'[i]? = some l→∀ v∈l,v.w=i)
 (hl:S'.D=S.D) (hn:S'.next=S.next) (hr:S'.E=S.E) (hz:sc'.length≤2000000):EX F n0 b TB X r0 S' fv ms mg mn mf pv sv' cv rv vs' sc' w2∧AP (CE X) n0 w w2:=by
 have B1:Ax w1 b 59 _:=h.B.C hg (fun e=>DY h.so h.B rfl e.symm);have g1:=NE h.so rfl h.sx hg;have g2:AP (CE X) n0 w1 w2:=J4 B1 rfl h.hb h.bx aa;have G:=g1.trans g2;obtain ⟨t1,t2,t3,t4⟩:=h.ba G;refine ⟨⟨ac,h.hb,t1,h.hF,t2,t3,Dg ho aa (.inr (DY ho B1 J)),(ae.C hg (RY h.so J)).C aa (fun k hk=>by injection hk with hk;subst hk;exact SP (M:=fun x _=>A2 x 84) B1 J),fl,sl,ss,?_,?_,by rw [hl];exact h.rl,h.tx,t4,h.bx,fun k hk=>?_,ab,h.cx,h.rx,hz⟩,G⟩;have k:=Dg h.co hg (Ji h.co h.so rfl);rw [hl,hn];exact Dg k aa (.inr (DY k B1 rfl));have k:=Dg h.ro hg (Ji h.ro h.so rfl);rw [hr];exact Dg k aa (.inr (DY k B1 rfl));rcases ad k hk with q|q;exact h.sx k q;intro hm;have:=h.xl k hm;omega
end
theorem U9{F:Nd}{n0 b:Nat}{TB X:List Nat}{r0:Option (List Bo)}{S:Ak}{w:Ae}(h:CA F n0 b TB X r0 S w)(hs:S.w≤1000000):Bz An 54 #[.pointer (some ⟨b,0,none⟩)] w fun r w'=>r = .tuple #[]∧CA F n0 b TB X r0 (El S) w'∧AP (CE X) n0 w w':=by
 obtain ⟨fv,ms,mg,mn,mf,pv,sv,cv,rv,vs,sc,h⟩:=h;have aj:=h.sr.len;have al:=h.sl;have ak:=h.L.hn;have g:=AP.refl (CE X) n0 w;refine JB (m:=11) Tryz.func54 J J [(0,True,_)] Bp ?_;refine Au (Ap J (Ap J (C1 J (AE JK J (AM Kg J (h.B.y J) (VN fun _ _ N7 _ g E=>?_))))));have h:=h.A (N7.g);refine Ja J Kl WR J BT (Ab J) h.so (Ab J) J N7.H.row J (by simp only [maxLen];omega) O Dn ?_;intro a8 c8 w8 ad aa ab;have B8:Ax w8 b 59 _:=h.B.C aa (fun e=>DY h.so h.B rfl e.symm);replace E:=IQ w8;refine Ad ?_;refine Ik J QA (Ab J) (Ab J) J B8 J J ?_;intro ai ac ah ag
 obtain ⟨af,ae⟩:=h.bv (vs':=vs++[.slice none 0 0]) (sc':=sc++[[]]) (S':=El S) aa (by rw [E6];exact ad) (fun k hk=>ab.imp (fun q=>q.symm.trans hk) fun q=>by rw [hk] at q;injection q with q;omega) ac ag h.sr.push (fun i v hv k hk=>by
  rcases Nat.lt_or_ge i vs.length with q|q;rw [Ht q] at hv;exact h.vx i v hv k hk;rw [Hv q] at hv;rcases LR (i-vs.length) with z|z;rw [z] at hv;injection hv with hv;subst hv;cases hk;rw [F3 (by show 1≤_;omega)] at hv;cases hv) (by rw [LN];show sc.flatten++[]=_;rw [List.append_nil];exact h.fl) (by rw [E6];show sc.length+1=S.w+1+1;omega) (fun i l hi v hv=>by
  rcases Nat.lt_or_ge i sc.length with q|q;rw [Ht q] at hi;exact h.ss i l hi v hv;rw [Hv q] at hi;rcases LR (i-sc.length) with z|z;rw [z] at hi;injection hi with hi;subst hi;cases hv;rw [F3 (by show 1≤_;omega)] at hi;cases hi) rfl rfl rfl (by rw [E6];show sc.length+1≤_;omega)
 have g:=g.trans ae;refine Ai (Hh J ?_);exact ⟨rfl,af.pc,g⟩
theorem xQ{sc:List (List Dz)}{n:Nat}(hl:sc.length=n+1)(hs:∀ (i:Nat) (l:List Dz),sc[i]? = some l→∀ v∈l,v.w=i):JG n sc.flatten=(sc.take n).flatten:=by
 have e:sc=sc.take n++[sc[n]'O]:=by
  conv=>lhs;rw [← List.take_append_drop n sc,NR O]
  rw [IM O]
 have e2:sc.flatten=(sc.take n).flatten++sc[n]'O:=by
  conv=>lhs;rw [e]
  rw [LN];simp
 rw [e2];refine iE (fun v hv=>hs n _ (Ei O) v hv) fun v hv=>?_;obtain ⟨l,aa,hv⟩:=List.mem_flatten.1 hv;obtain ⟨i,hi,rfl⟩:=Kp aa;rw [Gc] at hi;have:=hs i _ (Ei O) v (by rw [List.getElem_take] at hv;exact hv);omega
theorem Tg{F:Nd}{n0 b:Nat}{TB X:List Nat}{r0:Option (List Bo)}{S:Ak}{w:Ae}(h:CA F n0 b TB X r0 S w)(ag:1≤S.w)(hs:S.w≤1000000):LO An 142 #[.pointer (some ⟨b,0,none⟩)] w fun r w'=>r = .tuple #[]∧CA F n0 b TB X r0 (IY S) w'∧AP (CE X) n0 w w':=by
  obtain ⟨fv,ms,mg,mn,mf,pv,sv,cv,rv,vs,sc,h⟩:=h
  have ah:=h.sr.len
  have ae:=h.sl
  have ai:=h.L.hn
  obtain ⟨pa,pc,rfl,hc⟩:=IJ h.so
  have g:=AP.refl (CE X) n0 w
  refine bC (m:=16) Tryz.func142 J J [(0,True,_)] Bp ?_
  refine Dj [3,3,3,3,0,3,3,3,0,3,3,3,3,3,2] ?_
  have g:=NX g
  have h:=h.A (G.drew _)
  refine Ap J (Ap J (C1 J (AE JK J (AM Kg J (h.B.y J) (Ap J (C1 J (AE JK J (AM Kg J (h.B.y J) (EI Kl J (AR J (fun _=>Jy (Ab J) Bd (fun _=>O)) (AR J (fun _=>PI Kl (Ab J) (Ab J) (fun _=>O)) (C1 J (AE JK J (Ik J QA (Ab J) (Ab J) J h.B J J ?_))))))))))))))
  intro aj aa af ab
  have e:((vs.length:Int)-1).toNat=vs.length-1:=by omega
  rw [e] at ab
  have el:(vs.take (vs.length-1)).length=vs.length-1:=by rw [Gc];omega
  obtain ⟨ac,ad⟩:=h.bv (sv':=.slice pa (vs.length-1) pc) (vs':=vs.take (vs.length-1)) (sc':=sc.take S.w) (S':=IY S) (UF _ _) (by rw [el];have:=Rj h.so (j:=vs.length-1) O;rwa [E0] at this) (fun k hk=>.inl (by cases pa <;> exact hk)) aa ab (by rw [show vs.length-1=S.w by omega];exact h.sr.bm S.w) (fun i v hv k hk=>by
    rw [Hp] at hv
    split at hv
    · exact h.vx i v hv k hk
    · cases hv) (by show _=JG S.w S.F;rw [← h.fl];exact (xQ ae h.ss).symm) (by rw [Gc];show _=S.w-1+1;omega) (fun i l hi v hv=>by
    rw [Hp] at hi
    split at hi
    · exact h.ss i l hi v hv
    · cases hi) rfl rfl rfl (by rw [Gc];have:=h.sz;omega)
  have g:=g.trans ad
  refine Ai (Hh J ?_)
  exact ⟨rfl,ac.pc,g⟩
theorem xS{F:Nd}{n0 b:Nat}{TB X:List Nat}{r0:Option (List Bo)}{S:Ak}{w:Ae}(h:CA F n0 b TB X r0 S w)(aa:1≤S.w)(hs:S.w≤1000000):Bz An 142 #[.pointer (some ⟨b,0,none⟩)] w fun r w'=>r = .tuple #[]∧CA F n0 b TB X r0 (IY S) w'∧AP (CE X) n0 w w':=(Tg h aa hs).ret
theorem tT{b L:Nat}{w:Ae}(h:Pr b (L+1) w):LO An 142 #[.pointer (some ⟨b,0,none⟩)] w fun r w'=>r = .tuple #[]∧Pr b L w'∧w.grownBy w' (some b):=by
 obtain ⟨F,fv,ms,mg,mn,mf,a,n,c,cv,rv,hB,h1,h2,h3⟩:=h;have g:=G.refl w;refine bC (m:=16) Tryz.func142 J J [(0,True,_)] Bp ?_;refine Dj [3,3,3,3,0,3,3,3,0,3,3,3,3,3,2] ?_;have g:=HG g;have hB:=hB.A (G.drew _);refine Ap J (Ap J (C1 J (AE JK J (AM Kg J (hB.y J) (Ap J (C1 J (AE JK J (AM Kg J (hB.y J) (EI Kl J (AR J (fun _=>Jy (Ab J) Bd (fun _=>O)) (AR J (fun _=>PI Kl (Ab J) (Ab J) (fun _=>O)) (C1 J (AE JK J (Ik J QA (Ab J) (Ab J) J hB J J ?_))))))))))))));intro ad aa ac ab;rw [show ((n:Int)-1).toNat=n-1 by omega] at ab;have hg:=VI (g.O (some b)) aa;refine Ai (Hh J ?_);exact ⟨rfl,⟨F,fv,ms,mg,mn,mf,a,n-1,c,cv,rv,ab,O,O,O⟩,hg⟩
theorem Ta{n0:Nat}{e:AD}{w:Ae}{sv:AJ}{vs:List AJ}(h:w.ownsRow n0 e 1 sv vs.length vs):∃ p c,sv = .slice p vs.length c∧vs.length≤c∧∀ (i:Nat) (v:AJ),vs[i]? = some v→p=some ⟨E5 p,Gu p,none⟩∧w.cell? ⟨E5 p,Gu p+i*1,none⟩=some v:=by
 obtain ⟨p,c,hv,hc⟩:=IJ h;refine ⟨p,c,hv,hc,fun i v hi=>?_⟩;have ab:=(List.getElem?_eq_some_iff.1 hi).1;obtain ⟨g,c',aa,_,hR,_⟩:=LU h O;rw [hv] at aa;injection aa with AU _ _;subst AU;refine ⟨rfl,?_⟩;have:=hR i v hi;rw [E0];exact this
theorem Sm{n0:Nat}{e:AD}{w:Ae}{sv:AJ}{l:List Dz}(h:w.ownsRow n0 e 5 sv l.length (l.flatMap Nv)):∃ p c,sv = .slice p l.length c∧l.length≤c∧∀ i,(hi:i<l.length)→p=some ⟨E5 p,Gu p,none⟩∧CQ w (E5 p) (Gu p+i*5) (Nv l[i]):=by
 obtain ⟨p,c,hv,hc⟩:=IJ h;refine ⟨p,c,hv,hc,fun i hi=>?_⟩;obtain ⟨g,c',aa,_,hR,_⟩:=LU h O;rw [hv] at aa;injection aa with AU _ _;subst AU;exact ⟨rfl,OQ Agj hR hi⟩
def zR(o:Option Dz):AJ:=.tuple #[.agg (Nv (o.getD ZY)).toArray,.bool o.isSome]
theorem Vb{F:Nd}{n0 b:Nat}{TB X:List Nat}{r0:Option (List Bo)}{S:Ak}{w:Ae}{N:Nat}(h:CA F n0 b TB X r0 S w)(hb:EO S N)(hN:N≤1000000)(s:List UInt8):Bz An 157 #[.pointer (some ⟨b,0,none⟩),Cg s] w fun r w'=>r=zR (E9 S.F s)∧G w w':=by
 obtain ⟨fv,ms,mg,mn,mf,pv,sv,cv,rv,vs,sc,h⟩:=h;have au:=h.sr.len;have ax:=h.sl;have ap:=hb.sc;have ai:=h.fl;have aq:=hb.vl;obtain ⟨pa,pc,rfl,hc,al⟩:=Ta h.so;have g:=G.refl w;rw [← ai];refine JB (m:=55) Tryz.func157 J J [(0,True,_),(1,True,_)] Bp ?_;refine Am (Au (Pu fun _ w4 _ _ g E=>?_));refine Bj rfl (Ai (Al (Am (Am (Au (Ap rfl (C1 rfl (AE JK rfl (AM Kg rfl ((h.B.A g).y rfl) (EI Kl rfl (AR rfl (fun _=>Jy (Ab rfl) Bd (fun _=>O)) (Bj rfl (Ai (Al (DF (Hi (fun (i:Nat) u1=>(i≤sc.length∧E9 (sc.drop i).flatten s=none)∧G w4 u1) [(0,True,_),(1,True,_),(4,True,_)] (fun (i:Nat)=>[(6,True,.int .i64 ((i:Int)-1))]) (fun (i:Nat)=>i) (vs.length) ⟨⟨O,by rw [IM O];rfl⟩,G.refl _⟩ (Hr rfl (Hr rfl (Hr rfl (Hr rfl (M3 _))))) ?_))))))))))))))));rintro i u1 ⟨ak,aa⟩;have g:=g.trans aa;replace E:=E.A aa;obtain ⟨hi,hf⟩:=ak;refine Am (Am (Au (Ap J (Nz J J (Ai (Al (Cv J (fun h1=>?_) (fun h1=>?_))))))));have av:1≤i:=by have:=AH h1;omega
 obtain ⟨l,hl⟩:∃ l,sc[i-1]? = some l:=⟨_,Ei O⟩;obtain ⟨ad,af⟩:=List.getElem?_eq_some_iff.1 hl;obtain ⟨v,hv⟩:∃ v,vs[i-1]? = some v:=⟨_,Ei O⟩;obtain ⟨ac,hcell⟩:=al _ _ hv;obtain ⟨pi,ci,rfl,aw,ah⟩:=Sm (h.sr.row _ _ _ hv hl);have ei:((i:Int)-1).toNat=i-1:=by omega
 have ar:l.length≤1000000:=by
  have hm:l∈sc:=List.mem_of_getElem? hl;have:=(List.sublist_flatten_of_mem hm).length_le;rw [ai] at this;omega
 refine CJ (Al (Am (DF (Am (Au (Ap J (C1 J (AE JK J (AM Kg J ((h.B.A g).y J) (Ap J (Dk Kl J J O ac (AM Pn J (by rw [ei];exact (CY (g.block (Aj _ _ hcell))).trans hcell) (EI OH J (AR J (fun _=>Jy (Ab J) Bd (fun _=>O)) (Bj J (Ai (Al (?_))))))))))))))))));refine DF (Hi (fun (k:Nat) u2=>(k≤l.length∧E9 (l.drop k) s=none)∧G u1 u2) [(0,True,_),(1,True,_),(4,True,_),(6,True,_)] (fun (k:Nat)=>[(7,True,.int .i64 ((k:Int)-1))]) (fun (k:Nat)=>k) (l.length) ⟨⟨AA _,by rw [List.drop_length];rfl⟩,G.refl _⟩ (Hr rfl (Hr rfl (Hr rfl (Hr rfl (Hr rfl (M3 _)))))) ?_);rintro k u2 ⟨aj,ab⟩;have g:=g.trans ab;have aa:=aa.trans ab;replace E:=E.A ab;obtain ⟨hk,ae⟩:=aj;refine Am (Am (Au (Ap J (Nz J J (Ai (Al (Cv J (fun h2=>?_) (fun h2=>?_))))))));have ao:1≤k:=by have:=AH h2;omega
 obtain ⟨ag,hr⟩:=ah (k-1) O;have ek:((k:Int)-1).toNat=k-1:=by omega
 refine CJ (Al (Am (DF (Am (Au (Ap J (C1 J (AE JK J (AM Kg J ((h.B.A g).y J) (Ap J (Dk Kl J J O ac (AM Pn J (by rw [ei];exact (CY (g.block (Aj _ _ hcell))).trans hcell) (Ap J (Dk OH J J O ag (AE jR J (AM DW J (by rw [ek];exact (hr.A g).one (i:=0) J) (?_)))))))))))))))));refine Ap J (MD J J (Ai (Al (Cv J (fun h3=>?_) (fun h3=>?_)))));have h3:=AH h3;refine Am (Au (Ap J (C1 J (AE JK J (AM Kg J ((h.B.A g).y J) (Ap J (Dk Kl J J O ac (AM Pn J (by rw [ei];exact (CY (g.block (Aj _ _ hcell))).trans hcell) (Ap J (Dk OH J J O ag (Ct S4 J J (by rw [ek];exact hr.A g) (AS fun _ ga _ g E=>?_))))))))))));first|replace aa:=BJ aa ga O|clear aa|skip
 first|replace ab:=BJ ab ga O|clear ab|skip
 refine Bj J (Ai (Al (Dl (IZ (rs:=[.cell 4 84,.tmp 5]) (vs:=[_,_]) J J (GJ J S4 J (E.J.row) (Ij J (GD))) J ?_))));subst af;have e:=xB (sc:=sc) (s:=s) (i:=i-1) (k:=k-1) ad O (by rw [show i-1+1=i by omega];exact hf) (by rw [show k-1+1=k by omega];exact ae) h3;rw [e];exact ⟨rfl,g⟩;have h3:=CF h3;refine CJ (Al (Au (Ap J (AR J (fun _=>Jy (Ab J) Bd (fun _=>O)) (Bj J (EV [(7,_,_),(0,_,_),(1,_,_),(4,_,_),(6,_,_)] Bp (Ai (fun a ha=>?_))))))));subst af;have e2:(k:Int)-1-1=((k-1:Nat):Int)-1:=by omega
 rw [e2] at ha;exact ⟨k-1,ha,⟨⟨O,yA (sc:=sc) ad O (by rw [show k-1+1=k by omega];exact ae) h3⟩,ab⟩,O⟩;have an:k=0:=by have:=CF h2;omega
 subst an;refine L7 J (Al (Au (Ap J (AR J (fun _=>Jy (Ab J) Bd (fun _=>O)) (Bj J (EV [(6,_,_),(0,_,_),(1,_,_),(4,_,_)] Bp (Ai (fun a ha=>?_))))))));subst af;have e2:(i:Int)-1-1=((i-1:Nat):Int)-1:=by omega
 rw [e2] at ha;exact ⟨i-1,ha,⟨⟨O,oT ad (by rw [show i-1+1=i by omega];exact hf) ae⟩,aa⟩,O⟩;have am:i=0:=by have:=CF h1;omega
 subst am;refine L7 J (Al (Am (Au (Hg Rs Vx CH J J (AS fun _ ga _ g E=>?_)))));first|replace aa:=BJ aa ga O|clear aa|skip
 refine Bj J (Ai (Al (Dl (IZ (rs:=[.cell 4 84,.tmp 5]) (vs:=[_,_]) J J (GJ J S4 J (E.J.row) (Ij J (GD))) J ?_))));rw [FI] at hf;rw [hf];exact ⟨rfl,g⟩
def H3(F:Nd)(s:List UInt8):Bo×Bool:=bif Ac (0≤(A9 F 6 s).2) then ((Bx (Aa (A9 F 6 s).1 0)).1,true) else (Az,false)
def RO(F:Nd)(s:List UInt8):Int:=bif Ac (0≤(A9 F 6 s).2) then (A9 F 6 s).2 else 0
def HP(F:Nd)(s:List UInt8):Bool:=Ac (0≤(A9 F 4 s).2)
def Rh(F:Nd)(pv:Nat→AJ)(s:List UInt8):AJ:=bif HP F s then Il (A9 F 4 s).2.toNat (pv (A9 F 4 s).2.toNat) (GV (A9 F 4 s).1) else Il 0 (.slice none 0 0) Az
section
variable {n:Nat} {σ:List Ce} {c:Prop} {wb:Ae} {ty b:Nat} {x y:Operand} {F:Nd} {s:List UInt8}
theorem Zk(h:Do wb b (DR 6 (fun _ d=>D7 (Bx (Aa d 0)).1) F.j 0))(hx:BI n σ c x (.map (some b)))(hy:BI n σ c y (Cg s)) :
 Db An n σ c wb (.lookup 52 x y true) ty (.tuple #[D7 (H3 F s).1,.bool (H3 F s).2]):=by
 have k:=Zr (ty:=ty) Ma V2 FF h hx hy
 have e:(GW (DR 6 (fun _ d=>D7 (Bx (Aa d 0)).1) F.j 0) s).getD (.agg #[.int .i64 0,.string ⟨#[]⟩])=D7 (H3 F s).1∧(GW (DR 6 (fun _ d=>D7 (Bx (Aa d 0)).1) F.j 0) s).isSome=(H3 F s).2:=by
  rw [P5];unfold H3 A9;cases Ac (0≤(GI 6 s F.j 0).2) <;> exact ⟨rfl,rfl⟩
 rw [← e.1,← e.2];exact k
theorem Afy(h:Do wb b (DR 6 (fun k _=>.int .i64 k) F.j 0))(hx:BI n σ c x (.map (some b)))(hy:BI n σ c y (Cg s)) :
 Db An n σ c wb (.lookup 53 x y false) ty (.int .i64 (RO F s)):=by
 have k:=XN (ty:=ty) Ma Z5 MP h hx hy
 have e:(GW (DR 6 (fun k _=>Value.int .i64 k) F.j 0) s).getD (.int .i64 0) = .int .i64 (RO F s):=by
  rw [P5];unfold RO A9;cases hq:Ac (0≤(GI 6 s F.j 0).2);rfl;show Value.int .i64 ((GI 6 s F.j 0).2.toNat:Int) = .int .i64 (GI 6 s F.j 0).2;rw [NP (AH hq)]
 rw [← e];exact k
theorem UY{pv:Nat→AJ}{V:AJ}(ef:Rh F pv s=V)(h:Do wb b (DR 4 (fun k d=>Il k (pv k) (GV d)) F.j 0))(hx:BI n σ c x (.map (some b)))(hy:BI n σ c y (Cg s)) :
 Db An n σ c wb (.lookup 54 x y true) ty (.tuple #[V,.bool (HP F s)]):=by
 subst ef;have k:=Zr (ty:=ty) Ma SZ Pg h hx hy
 have e:(GW (DR 4 (fun k d=>Il k (pv k) (GV d)) F.j 0) s).getD (Il 0 (.slice none 0 0) Az)=Rh F pv s∧(GW (DR 4 (fun k d=>Il k (pv k) (GV d)) F.j 0) s).isSome=HP F s:=by
  rw [P5];unfold Rh HP A9;cases Ac (0≤(GI 4 s F.j 0).2) <;> exact ⟨rfl,rfl⟩
 rw [← e.1,← e.2];exact k
end
theorem WV{F:Nd}{TB:List Nat}{ms mg mn mf:Nat}{pv:Nat→AJ}{w:Ae}(T:QP F TB ms mg mn mf pv w)(s:List UInt8):∃ k p m c y,Rh F pv s=Il k (.slice p m c) y∧(HP F s=true→k=(A9 F 4 s).2.toNat∧pv k = .slice p m c∧y=GV (A9 F 4 s).1):=by
 unfold Rh;cases hq:HP F s;exact ⟨0,none,0,0,Az,rfl,fun h=>by cases h⟩;obtain ⟨p,c,e,_⟩:=T.hp s (AH hq);exact ⟨_,p,_,c,_,by rw [← e];rfl,fun _=>⟨rfl,e,rfl⟩⟩
def M7(F:Nd)(S:Ak)(s:List UInt8):Bo×Bool:=bif (E9 S.F s).isSome then (Az,false) else H3 F s
theorem Acy{F:Nd}{n0 b:Nat}{TB X:List Nat}{r0:Option (List Bo)}{S:Ak}{w:Ae}{N:Nat}(h:CA F n0 b TB X r0 S w)(hb:EO S N)(hN:N≤1000000)(s:List UInt8):Bz An 184 #[.pointer (some ⟨b,0,none⟩),Cg s] w fun r w'=>r = .tuple #[D7 (M7 F S s).1,.bool (M7 F S s).2]∧G w w':=by
 obtain ⟨fv,ms,mg,mn,mf,pv,sv,cv,rv,vs,sc,h⟩:=h;have g:=G.refl w;refine Cu 29 [0,1] Tryz.func184 ?_;refine Pu fun _ _ _ _ g E=>?_;refine Ad ?_;refine AO (Vb (h.A g).pc hb hN s) ?_;rintro _ _ ⟨rfl,ga⟩;refine A4 fun g E=>?_;refine A5 fun _ _ _ _ g E=>?_;refine AS fun _ _ _ g E=>?_;refine Aw (fun h1=>?_) fun h1=>?_;have e:M7 F S s=(Az,false):=by unfold M7;rw [h1];rfl
 refine AS fun _ _ _ g E=>?_;refine Bj J (Ai (Al (Dl (IZ (rs:=[.cell 4 24,.tmp 5]) (vs:=[_,_]) J J (GJ J Cf J (E.U.row) (Ij J (GD))) J ?_))));rw [e];exact ⟨rfl,g⟩;have e:M7 F S s=H3 F s:=by unfold M7;rw [h1];rfl
 refine CJ (Al (Am (Kb [3,3,3,0,3,0,3,3,3,1,2,3] (Ap J (C1 J (AE Vw J (AM VW J ((h.B.A g).y J) (Ap J (FG J (Zk (h.T.hg.A g) (Ab J) (Ab J)) (Ap J (FJ J J (FJ J J (A5 fun _ _ _ _ g E=>?_)))))))))))));refine AS fun _ _ _ g E=>?_;refine AS fun _ _ _ g E=>?_;refine AN ?_;rw [e];exact ⟨rfl,g⟩
theorem lO{F:Nd}{n0 b:Nat}{TB X:List Nat}{r0:Option (List Bo)}{S:Ak}{w:Ae}{N:Nat}(h:CA F n0 b TB X r0 S w)(hb:EO S N)(hN:N≤1000000)(s:List UInt8):Bz An 171 #[.pointer (some ⟨b,0,none⟩),Cg s] w fun r w'=>(∃ k m z c y,r = .tuple #[Il k (.slice m z c) y,.bool (!(E9 S.F s).isSome&&HP F s)]∧((!(E9 S.F s).isSome&&HP F s)=true→k=(A9 F 4 s).2.toNat∧y=GV (A9 F 4 s).1∧EH TB w' (Jq (A9 F 4 s).1) (.slice m z c)))∧G w w':=by
 obtain ⟨fv,ms,mg,mn,mf,pv,sv,cv,rv,vs,sc,h⟩:=h;obtain ⟨k,up,um,uc,y,ef,hf⟩:=WV h.T s;have g:=G.refl w;refine Cu 29 [0,1] Tryz.func171 ?_;refine Pu fun _ _ _ _ g E=>?_;refine Ad ?_;refine AO (Vb (h.A g).pc hb hN s) ?_;rintro _ _ ⟨rfl,ga⟩;refine A4 fun g E=>?_;refine A5 fun _ _ _ _ g E=>?_;refine AS fun _ _ _ g E=>?_;refine Aw (fun h1=>?_) fun h1=>?_;have e:(!(E9 S.F s).isSome&&HP F s)=false:=by rw [h1];rfl
 refine AS fun _ _ _ g E=>?_;refine Bj J (Ai (Al (Dl (IZ (rs:=[.cell 4 61,.tmp 5]) (vs:=[_,_]) J J (GJ J aF J (E.U.row) (Ij J (GD))) J ?_))));rw [e];exact ⟨⟨0,none,0,0,Az,rfl,fun q=>by cases q⟩,g⟩;have e:(!(E9 S.F s).isSome&&HP F s)=HP F s:=by rw [h1];rfl
 refine CJ (Al (Am (Kb [3,3,3,0,3,0,3,3,3,1,2,3] (Ap J (C1 J (AE Rb J (AM Sj J ((h.B.A g).y J) (Ap J (FG J (UY ef (h.T.hf.A g) (Ab J) (Ab J)) (Ap J (FJ J J (FJ J J (A5 fun _ _ _ _ g E=>?_)))))))))))));refine AS fun _ _ _ g E=>?_;refine AS fun _ _ _ g E=>?_;refine AN ?_
 rw [e];exact ⟨⟨k,up,um,uc,y,rfl,fun q=>by
  obtain ⟨q1,q2,q3⟩:=hf q;refine ⟨q1,q3,?_⟩;rw [← q2,q1];exact (h.A g).T.hp s (AH q)⟩,g⟩
def S0(F:Nd):Prop:=∀ s,0≤(A9 F 4 s).2→BL (GV (A9 F 4 s).1) Az=Ac ((Aa (A9 F 4 s).1 1).k=9)
theorem Vi{F:Nd}{S:Ak}{t:Nd}{v:Dz}(hv:E9 S.F t.o=some v):Cx F S t=(.mk t.k t.o v.num t.z [] v.typ 1 ((S.D:Int)-v.D),true):=by
 unfold Cx;rw [hv]
theorem Wf{F:Nd}{S:Ak}{t:Nd}(hv:E9 S.F t.o=none)(hg:(H3 F t.o).2=true):Cx F S t=(.mk t.k t.o (RO F t.o) t.z [] (H3 F t.o).1 2 0,true):=by
 have hq:Ac (0≤(A9 F 6 t.o).2)=true:=by
  cases hq:Ac (0≤(A9 F 6 t.o).2);unfold H3 at hg;rw [hq] at hg;cases hg;rfl
 unfold Cx RO H3;rw [hv];dsimp only;rw [hq];rfl
theorem UA{F:Nd}{S:Ak}{t:Nd}(hv:E9 S.F t.o=none)(hg:(H3 F t.o).2=false):Cx F S t=bif HP F t.o then (.mk t.k t.o (A9 F 4 t.o).2 t.z [] (Kt (A9 F 4 t.o).1) 3 0,true) else (DJ t,false):=by
 have hq:Ac (0≤(A9 F 6 t.o).2)=false:=by
  cases hq:Ac (0≤(A9 F 6 t.o).2);rfl;unfold H3 at hg;rw [hq] at hg;cases hg
 unfold Cx HP;rw [hv];dsimp only;rw [hq];rfl
theorem WL{F:Nd}{n0 b:Nat}{TB X:List Nat}{r0:Option (List Bo)}{S:Ak}{w:Ae}{N:Nat}(t:Nd)(p:Option Addr)(c:Nat)(h:CA F n0 b TB X r0 S w)(hb:EO S N)(hN:N≤1000000)(hR:S0 F)(hk:F1 t=0) :
 Gg An 138 #[.pointer (some ⟨b,0,none⟩),Cd t (.slice p t.j.length c)] w (fun r w'=>(Cx F S t).2=true∧r=Cd (Cx F S t).1 (.slice none 0 0)∧G w w') (fun ch w'=>(Cx F S t).2=false∧ch=[JZ t.z 5]∧G w w'):=by
 obtain ⟨fv,ms,mg,mn,mf,pv,sv,cv,rv,vs,sc,h⟩:=h;obtain ⟨k,up,um,uc,y,ef,hf⟩:=WV h.T t.o;obtain ⟨pc,cc,rfl,aq⟩:=IJ h.co;have az:=h.B.lt;have ay:=hb.lv;have ax:=hb.nl;have g:=G.refl w;refine JM (m:=94) Tryz.func138 J J [(0,True,_),(1,True,_)] Bp ?_;refine CT fun _ _ _ _ g E=>?_;refine A5 fun _ _ _ _ g E=>?_;refine Ad ?_;refine AO (Ls t _ _ _) ?_;rintro _ _ ⟨rfl,ga⟩;refine A4 fun g E=>?_;refine A5 fun b5 _ _ _ g E=>?_;refine AS fun _ _ _ g E=>?_;refine Ad ?_;refine AO (Vb (h.A g).pc hb hN t.o) ?_;rintro _ _ ⟨rfl,ga⟩;refine A4 fun g E=>?_;refine A5 fun _ _ _ _ g E=>?_;refine AS fun _ _ _ g E=>?_;refine Aw (fun h1=>?_) fun h1=>?_;obtain ⟨v,hv⟩:=Option.isSome_iff_exists.1 h1;simp only [hv,Option.getD_some] at E;have e:=Vi (F:=F) hv;have ar:v.D≤N:=(hb.vs v (List.mem_reverse.1 (P1 hv))).2.1;refine Ad ?_;refine Dx (Ej (some b5)) [3,0,3,3,3,0,3,3,3,0,3,3,0,3,1,3,1,3,1,3,1] [0,1,0,4,12,28,60,124,0,256,1020,0,2048,0,8192,24579,57347,124927,255999,524287,1048575] CG Ag [0,1,2,3,4,5,6,7,8,9,10,11,12,13,14,15,16,17,18,19,20] J ?_;refine FY fun g E=>?_
 refine As 0 J J (fun _=>AB cZ (Ab J)) (Bb 1 J J (fun w1 hx=>AZ Cb (Ab J) (fun _=>(E.J.C hx (fun h=>E.ne 0 1 J J J (EM h))).y J)) (As 2 J J (Bm J) (As 3 J J (fun _=>FZ (Ab J)) (As 4 J J (fun _=>AB Tk (Ab J)) (Bb 5 J J (fun w1 hx=>AZ Ol (Ab J) (fun _=>((h.B.A g).C hx (by intro q;injection q with q;omega)).y J)) (As 6 J J (fun _=>Lp Jm (Ab J)) (As 7 J J (fun _=>Jy (Ab J) Bd (fun _=>O)) (As 8 J J (fun _=>AB X9 (Ab J)) (Bb 9 J J (fun w1 hx=>AZ Cb (Ab J) (fun _=>(E.J.C hx (fun h=>E.ne 0 1 J J J (EM h))).y J)) (As 10 J J (fun _=>Jy (Ab J) (Ab J) (fun _=>O)) (As 11 J J (fun _=>AB aP (Ab J)) (Bb 12 J J (fun w1 hx=>A8 Cf (Ab J) J (fun _=>(E.J.C hx (fun h=>E.ne 0 1 J J J (EM h))).row.part 1 2)) (As 13 J J (fun _=>AB OE (Ab J)) (AW 14 J J ?_))))))))))))));refine Bt (L':=[15,16,17,18,19,20]) [3,0,3,3,3,0,3,3,3,0,3,3,0,3,2,3,2,3,2,3,2] J J J ?_;refine AS fun _ ak _ g E=>?_;refine Bs (ak) ?_;refine As 15 J J (fun _=>AB Ku (Ab J)) (AW 16 J J ?_);refine Bt (L':=[17,18,19,20]) [3,0,3,3,3,0,3,3,3,0,3,3,0,3,2,3,2,3,2,3,2] J J J ?_;refine AS fun _ ai _ g E=>?_;refine Bs (ai) ?_;refine As 17 J J (fun _=>AB T8 (Ab J)) (AW 18 J J ?_);refine Bt (L':=[19,20]) [3,0,3,3,3,0,3,3,3,0,3,3,0,3,2,3,2,3,2,3,2] J J J ?_;refine AS fun _ al _ g E=>?_;refine Bs (al) ?_;refine As 19 J J (fun _=>AB Fg (Ab J)) (AW 20 J J ?_);refine Bt (L':=[]) [3,0,3,3,3,0,3,3,3,0,3,3,0,3,2,3,2,3,2,3,2] J J J ?_;refine Df J ET (Ab J) (Ab J) J J E.U J J ?_;intro av ad _ BS;replace E:=E.s1 ad BS;have g:=BJ g ad O;refine Bs (ad) ?_
 refine Dt [0,3,4,5] ?_;refine AS fun _ _ _ g E=>?_;refine AN ?_;rw [e];refine ⟨rfl,?_,g⟩;have el:(((S.D+1:Nat):Int)-1-(v.D:Int))=(S.D:Int)-v.D:=by omega
 rw [el];rfl;have hv:E9 S.F t.o=none:=by simpa using h1
 refine Ad ?_;refine Dj [3,3,3,0,3,0,0,3,3,3,1,2,3] ?_;refine FY fun g E=>?_;refine Ap J (C1 J (AE Vw J (AM VW J ((h.B.A g).y J) (AE E2 J (AM DW J (E.g3.y J) (FG J (Zk (h.T.hg.A g) (Ab J) (Ab J)) (Ap J (FJ J J (FJ J J (A5 fun _ _ _ _ g E=>?_))))))))));refine AS fun _ _ _ g E=>?_;refine Aw (fun h2=>?_) fun h2=>?_;have e:=Wf (S:=S) hv h2;refine Ad ?_;refine Dx (Ej (some b5)) [3,3,3,0,3,0,0,0,3,1,3,1,3,1] [0,1,3,7,0,16,63,0,0,256,895,1919,4095,8191] CG Ag [0,1,2,3,4,5,6,7,8,9,10,11,12,13] J ?_;refine FY fun g E=>?_;refine As 0 J J (Bm J) (As 1 J J (fun _=>FZ (Ab J)) (As 2 J J (fun _=>AB iV (Ab J)) (Bb 3 J J (fun w1 hx=>AZ gJ (Ab J) (fun _=>((h.B.A g).C hx (by intro q;injection q with q;omega)).y J)) (As 4 J J (fun _=>AB E2 (Ab J)) (Bb 5 J J (fun w1 hx=>AZ DW (Ab J) (fun _=>(E.g4.C hx (fun h=>E.ne 4 2 J J J (EM h))).y J)) (Bb 6 J J (fun w1 hx=>Afy ((h.T.hn.A g).C hx (by intro q;injection q with q;have:=h.T.hn.lt;omega)) (Ab J) (Ab J)) (Bb 7 J J (fun w1 hx=>A8 Cf (Ab J) J (fun _=>(E.J.C hx (fun h=>E.ne 0 2 J J J (EM h))).row)) (As 8 J J (fun _=>AB OE (Ab J)) (AW 9 J J ?_)))))))));refine Bt (L':=[10,11,12,13]) [3,3,3,0,3,0,0,0,3,2,3,2,3,2] J J J ?_;refine AS fun _ aj _ g E=>?_;refine Bs (aj) ?_;refine As 10 J J (fun _=>AB Ku (Ab J)) (AW 11 J J ?_);refine Bt (L':=[12,13]) [3,3,3,0,3,0,0,0,3,2,3,2,3,2] J J J ?_;refine AS fun _ af _ g E=>?_;refine Bs (af) ?_
 refine As 12 J J (fun _=>AB Fg (Ab J)) (AW 13 J J ?_);refine Bt (L':=[]) [3,3,3,0,3,0,0,0,3,2,3,2,3,2] J J J ?_;refine Df J ET (Ab J) (Ab J) J J E.g2 J J ?_;intro ap aa _ BS;replace E:=E.s2 aa BS;have g:=BJ g aa O;refine Bs (aa) ?_;refine Dt [0,3,4,5] ?_;refine AS fun _ _ _ g E=>?_;refine AN ?_;rw [e];exact ⟨rfl,rfl,g⟩;have e:=UA (S:=S) hv h2;refine Ad ?_;refine Dj [3,3,3,0,3,0,0,3,3,3,1,2,3] ?_;refine FY fun g E=>?_;refine Ap J (C1 J (AE Rb J (AM Sj J ((h.B.A g).y J) (AE E2 J (AM DW J (E.g4.y J) (FG J (UY ef (h.T.hf.A g) (Ab J) (Ab J)) (Ap J (FJ J J (FJ J J (A5 fun _ _ _ _ g E=>?_))))))))));refine AS fun _ _ _ g E=>?_;refine Ad ?_;refine EL J G1 J J J (GS _ _ _ _) ((fun ch w' hz=>⟨by rw [e,hz.1];rfl,hz.2.1,g.trans hz.2.2⟩)) ?_;rintro au aw ⟨rfl,hq,am⟩;refine Ev am fun g=>?_;obtain ⟨f1,f2,f3⟩:=hf hq;rw [hq,AL] at e
 have ah:um=(Aa (A9 F 4 t.o).1 0).j.length:=by
  obtain ⟨p',c',e',_⟩:=h.T.hp t.o (AH hq);rw [← f1,f2] at e';injection e' with _ e' _;rw [e'];unfold Jq;rw [Cq]
 have ac:=hR t.o (AH hq);rw [← f3] at ac;have an:((k:Nat):Int)=(A9 F 4 t.o).2:=by rw [f1];exact NP (AH hq)
 replace E:=E.A am;refine Ai (Al (Am (Dx (Ej (some b5)) [3,0,3,1,3,1] [0,1,0,4,15,31] CG Ag [0,1,2,3,4,5] J ?_)));refine FY fun g E=>?_;refine As 0 J J (fun _=>AB fD (Ab J)) (Bb 1 J J (fun w1 hx=>AZ Cb (Ab J) (fun _=>(E.J.C hx (fun h=>E.ne 0 3 J J J (EM h))).y J)) (As 2 J J (fun _=>AB OE (Ab J)) (AW 3 J J ?_)));refine Bt (L':=[4,5]) [3,0,3,2,3,2] J J J ?_;refine AS fun _ ae _ g E=>?_;refine Bs (ae) ?_;refine As 4 J J (fun _=>AB Ku (Ab J)) (AW 5 J J ?_);refine Bt (L':=[]) [3,0,3,2,3,2] J J J ?_;refine AS fun _ ag _ g E=>?_;refine Bs (ag) ?_;refine Ke [(4,_,_),(5,_,_),(10,_,_)] Bp (FW (Al (Am (Am (Au (AE UD J (AM Nm J (E.J.y J) (EI Jb J (Fy J J (Ap J (Ay J J J (fun _=>AB TS (Ab J)) (BQ J J J (A8 Cf (Ah J id) J (fun _=>E.J.row.part 2 2)) (Ay J J J (fun _=>Jj [_,_] FF J Ia (IR) J) (Ay J J J (fun _=>I9 Iv (Ah J id) (Ah J id) J) (AR J (fun _=>Et (Ab J) (Ah J id)) (Ai (Al (?_))))))))))))))))));refine Cv J (fun h3=>?_) (fun h3=>?_);have ey:Kt (A9 F 4 t.o).1=tFunc:=by unfold Kt;rw [← ac,← ah,show (Ac ((um:Int)=0)&&BL y Az)=true from h3];rfl
 refine Au (Ct Cf J J (h.L.hC.2.2.2.2.2.A g) (AE Fg J (Df J ET (Ab J) (Ab J) J J E.g3 J J ?_)));intro ao ab _ BS;replace E:=E.s3 ab BS;have g:=BJ g ab O;refine AS fun _ _ _ g E=>?_;refine AN ?_;rw [e];refine ⟨rfl,?_,g⟩;rw [ey,← an];rfl;have ey:Kt (A9 F 4 t.o).1=Az:=by unfold Kt;rw [← ac,← ah,show (Ac ((um:Int)=0)&&BL y Az)=false from h3];rfl
 refine AS fun _ _ _ g E=>?_;refine AN ?_;rw [e];refine ⟨rfl,?_,g⟩;rw [ey,← an];rfl
def D1(M:Nat)(F:Nd)(fn:FuncId)(t:Nd)(f:Ak→Nd×Ak):Prop:=∀ {n0 b:Nat} {TB X:List Nat} {r0:List Bo} {S:Ak} {w:Ae} {v:AJ} {N:Nat},CA F n0 b TB X (some r0) S w→S.ee=0→EU S→Bv w (fun k=>k<n0) t.j v→EO S N→N+count t≤M→
 Gg An fn #[.pointer (some ⟨b,0,none⟩),Cd t v] w (fun r w'=>(f S).2.ee=0∧Ii (f S).1 w.heap.size r w'∧CA F n0 b TB X (some r0) (f S).2 w'∧AP (CE X) n0 w w') (Dm n0 b X (S.w+1) (f S).2 w)
theorem D1.to{M:Nat}{F:Nd}{fn:FuncId}{t:Nd}{f:Ak→Nd×Ak}(H:D1 M F fn t f){n0 b:Nat}{TB X:List Nat}{r0:List Bo}{S:Ak}{w:Ae}{v:AJ}{N m0:Nat}(Z:List Nat)(h:CA F n0 b TB X (some r0) S w)(he:S.ee=0)(hc:EU S)(hk:Bv w (fun k=>k<n0) t.j v)(hb:EO S N)(hn:N+count t≤M)(hZ:∀ j∈Z,j<w.heap.size)(hm:m0≤w.heap.size) :
 Gg An fn #[.pointer (some ⟨b,0,none⟩),Cd t v] w (fun r w'=>(∃ p c,r=Cd (f S).1 (.slice p (f S).1.j.length c)∧m0≤w.heap.size∧EP w.heap.size Z w' (f S).1.j (.slice p (f S).1.j.length c))∧(f S).2.ee=0∧CA F n0 b TB X (some r0) (f S).2 w'∧AP (CE X) n0 w w') (Dm n0 b X (S.w+1) (f S).2 w) :=
 (H h he hc hk hb hn).mono (fun r w' hr=>by
 obtain ⟨h0,⟨p,c,e,k⟩,h1,h2⟩:=hr;exact ⟨⟨p,c,e,hm,Gb.x k hZ⟩,h0,h1,h2⟩) fun _ _ h=>h
structure OS (f:Ak→Nd×Ak):Prop where
  can:∀ S,D3 S→EU S→Hd (f S).1.ty
  sc:∀ S,(f S).2.w=S.w
theorem vK{M:Nat}{F t:Nd}{f:Ak→Nd×Ak}(H:D1 M F 113 t f)(HF:OS f){k:Int}(ah:k≠4){n0 b:Nat}{TB X:List Nat}{r0:List Bo}{S:Ak}{w:Ae}{v:AJ}{N:Nat}(h:CA F n0 b TB X (some r0) S w)(he:S.ee=0)(hc:EU S)(ab:Bv w (fun k=>k<n0) t.j v)(hb:EO S N)(hn:N+count t≤M) :
 Gg An 114 #[.pointer (some ⟨b,0,none⟩),Cd t v,D7 ⟨k,[]⟩] w (fun r w'=>(DA (f S).1 k t.z (f S).2).ee=0∧DA (f S).1 k t.z (f S).2=(f S).2∧Ii (f S).1 w.heap.size r w'∧CA F n0 b TB X (some r0) (f S).2 w'∧AP (CE X) n0 w w') (Dm n0 b X (S.w+1) (DA (f S).1 k t.z (f S).2) w):=by
 obtain ⟨p,c,rfl,_⟩:=id ab;have ar:=h.lt;have ae:=h.tb;have ag:=h.az;have g:=AP.refl (CE X) n0 w;refine JM (m:=19) Tryz.func114 J J [(0,True,_),(1,True,_),(2,True,_)] Bp ?_;refine CT fun b4 _ ga _ g E=>?_;have au:=h;have h:=Ar h;have ab:=Ar ab;refine Mt fun b5 _ N5 _ g E=>?_;have aj:=h;have h:=h.A (N5.g);have ab:=ab.A (N5.g);have h:=aj.ak N5;refine A5 fun b6 _ ga _ g E=>?_;have ak:=h;have h:=Ar h;have ab:=Ar ab;refine Ad ?_;refine G0 J LY J J (D1.to H [b4,b5,b6] h he hc ab hb hn (E.Q Br) g.size) ((fun ch w' hz=>Dm.pass hz ((Bg.refl _).I _ _ _) (AA _) g)) ?_;rintro av al ⟨⟨ap,aq,rfl,ai,aa⟩,ad,h,af⟩;refine EZ af fun g E=>?_;have hE:=O0 (HF.can S ag hc) ah;have eW:DA (f S).1 k t.z (f S).2=AG (BL (f S).1.ty ⟨k,[]⟩) t.z 7 (f S).2:=by unfold DA;rw [hE]
 refine A5 fun _ _ ga _ g E=>?_;have ao:=h;have aa:=Bq aa;have h:=Ar h;refine AS fun _ ga Ca g E=>?_;have h:=h.C ga Ca O (.inl rfl);have aa:=aa.C ga Ch;refine Ad ?_;refine Dx (Ej none) [3,0,0,3,3,0,1] [0,1,0,7,0,16,63] CG Ag [0,1,2,3,4,5,6] J ?_;refine Da fun g E h=>?_;have aa:=aa.A (G.drew _);refine As 0 J J (fun _=>AB Fg (Ab J)) (Bb 1 J J (fun w1 hx=>A8 Cf (Ab J) J (fun _=>(E.J.C hx DD).row.part 5 2)) (Bb 2 J J (fun w1 hx=>A8 Cf (Ab J) J (fun _=>(E.g2.C hx DD).row)) (As 3 J J (fun _=>I9 Iv (Ab J) (Ab J) J) (As 4 J J (fun _=>AB H7 (Ab J)) (Bb 5 J J (fun w1 hx=>AZ Cb (Ab J) (fun _=>(E.g3.C hx DD).y J)) (AW 6 J J ?_))))));refine Bt (L':=[]) [3,0,0,3,3,0,1] J J J ?_;refine EL J G1 J J J (GS _ _ _ _) ((fun ch w' hz=>IC (h.sub (Y:=X) ae.1 (by intro j hj;simp [hj])) ad BT (by rw [eW];exact Bg.refl _) hz g (by rw [HF.sc];exact AA _))) ?_;rintro an am ⟨rfl,hq,ac⟩;refine ⟨fun _=>ac,?_⟩;have g:=BZ g ac;have h:=h.A ac;replace E:=E.A ac;have aa:=aa.A ac;refine Bs (ac.O _) ?_;refine Dt [6,7] ?_;refine AS fun _ ga Ca g E=>?_;have h:=h.C ga Ca O (.inl rfl);have aa:=aa.C ga Ch;refine AN ?_;have e:DA (f S).1 k t.z (f S).2=(f S).2:=by rw [eW,show BL (f S).1.ty ⟨k,[]⟩=true from hq];rfl
 rw [e];exact ⟨ad,rfl,BO rfl (aa.W ai),h.sub ae.1 (by intro j hj;simp [hj]),g⟩
theorem yL{M:Nat}{F t:Nd}{f:Ak→Nd×Ak}(H:D1 M F 113 t f)(HF:OS f)(y:Bo){n0 b:Nat}{TB X:List Nat}{r0:List Bo}{S:Ak}{w:Ae}{v:AJ}{N:Nat}(h:CA F n0 b TB X (some r0) S w)(he:S.ee=0)(hc:EU S)(ab:Bv w (fun k=>k<n0) t.j v)(hb:EO S N)(hn:N+count t≤M) :
 Gg An 112 #[.pointer (some ⟨b,0,none⟩),Cd t v,D7 y] w (fun r w'=>(AG (EE y (f S).1.ty) t.z 7 (f S).2).ee=0∧AG (EE y (f S).1.ty) t.z 7 (f S).2=(f S).2∧Ii (f S).1 w.heap.size r w'∧CA F n0 b TB X (some r0) (f S).2 w'∧AP (CE X) n0 w w') (Dm n0 b X (S.w+1) (AG (EE y (f S).1.ty) t.z 7 (f S).2) w):=by
 obtain ⟨p,c,rfl,_⟩:=id ab;have av:=h.lt;have af:=h.tb;have aq:=h.az;have g:=AP.refl (CE X) n0 w;refine JM (m:=19) Tryz.func112 J J [(0,True,_),(1,True,_),(2,True,_)] Bp ?_;refine CT fun b4 _ ga _ g E=>?_;have aw:=h;have h:=Ar h;have ab:=Ar ab;refine Mt fun b5 _ N5 _ g E=>?_;have ai:=h;have h:=h.A (N5.g);have ab:=ab.A (N5.g);have h:=ai.ak N5;refine A5 fun b6 _ ga _ g E=>?_;have aj:=h;have h:=Ar h;have ab:=Ar ab;refine Ad ?_;refine G0 J LY J J (D1.to H [b4,b5,b6] h he hc ab hb hn (E.Q Br) g.size) ((fun ch w' hz=>Dm.pass hz ((Bg.refl _).I _ _ _) (AA _) g)) ?_;rintro ax ak ⟨⟨ap,au,rfl,ah,aa⟩,ae,h,ag⟩;refine EZ ag fun g E=>?_;refine A5 fun _ _ ga _ g E=>?_;have ao:=h;have aa:=Bq aa;have h:=Ar h;refine AS fun _ ga Ca g E=>?_;have h:=h.C ga Ca O (.inl rfl);have aa:=aa.C ga Ch;refine Ad ?_;refine Dx (Ej none) [0,3,0,1,3,0,1] [0,0,2,7,0,16,63] CG Ag [0,1,2,3,4,5,6] J ?_;refine Da fun g E h=>?_;have aa:=aa.A (G.drew _);refine Bb 0 J J (fun w1 hx=>A8 Cf (Ab J) J (fun _=>(E.g2.C hx DD).row)) (As 1 J J (fun _=>AB Fg (Ab J)) (Bb 2 J J (fun w1 hx=>A8 Cf (Ab J) J (fun _=>(E.J.C hx DD).row.part 5 2)) (As 4 J J (fun _=>AB H7 (Ab J)) (Bb 5 J J (fun w1 hx=>AZ Cb (Ab J) (fun _=>(E.g3.C hx DD).y J)) (AW 3 J J ?_)))));refine Bt (L':=[6]) [0,3,0,1,3,0,1] J J J ?_;refine AO (rF y (f S).1.ty _ h.laid.hL h.laid.hb) ?_;rintro ar am ⟨rfl,ad⟩
 refine ⟨fun _=>ad,?_⟩;have g:=BZ g ad;replace E:=E.A ad;have h:=h.A (ad);have aa:=aa.A (ad);refine Bs ((ad).O _) ?_;refine AW 6 J J ?_;refine Bt (L':=[]) [0,3,0,1,3,0,1] J J J ?_;refine EL J G1 J J J (GS _ _ _ _) ((fun ch w' hz=>IC (h.sub (Y:=X) af.1 (by intro j hj;simp [hj])) ae BT (Bg.refl _) hz g (by rw [HF.sc];exact AA _))) ?_;rintro an al ⟨rfl,hq,ac⟩;refine ⟨fun _=>ac,?_⟩;have g:=BZ g ac;have h:=h.A ac;replace E:=E.A ac;have aa:=aa.A ac;refine Bs (ac.O _) ?_;refine Dt [6,7] ?_;refine AS fun _ ga Ca g E=>?_;have h:=h.C ga Ca O (.inl rfl);have aa:=aa.C ga Ch;refine AN ?_;have e:AG (EE y (f S).1.ty) t.z 7 (f S).2=(f S).2:=by rw [hq];rfl
 rw [e];exact ⟨ae,rfl,BO rfl (aa.W ah),h.sub af.1 (by intro j hj;simp [hj]),g⟩
section
variable {α:Type} {f:α→List AJ} {e:AD} {z base:Nat} {w w':Ae} {ks:List α} {s:AJ}
theorem Ly.b5(hf:∀ a,(f a).length=z){p:Option Addr}{n c:Nat}(h:Ly f w ks (.slice p n c)){i:Nat}(hi:i<ks.length):p=some ⟨E5 p,Gu p,none⟩∧CQ w (E5 p) (Gu p+i*z) (f ks[i]):=by
 obtain ⟨p',c',AU,_,h2⟩:=h;injection AU with AU _ _;subst AU;obtain ⟨b,o,rfl,hR⟩:=h2 O;exact ⟨rfl,OQ hf hR hi⟩
end
section
variable {P:Bl} {Z:List Bf→Act→Ae→Prop} {ops:List Oper} {cl:List Nat} {lv:List Bool} {W0:Ae} {n:Nat} {K:Act→Ae→Prop} {k:Nat} {rest:List Oper} {σ:List Ce} {w:Ae} {d:Nat} {ty:AD} {pos:String} {after:Array Edge}
end
structure Ahm where
  name:List UInt8
  typ:Bo
  par:Bool
  box:Bool
def GY(F:Nd)(y:Bo)(s:List UInt8):Bo×Bool×Bool:=bif Ac (y.k=4) then (match (F8 F y.name).1.find? fun f=>Ac (f.name=s) with|some f=>(f.ty,true,true)|none=>(Az,true,false)) else (Az,false,false)
theorem ZB{F:Nd}{n0 b:Nat}{TB X:List Nat}{r0:Option (List Bo)}{S:Ak}{w:Ae}(x:Nd)(v:AJ)(s:List UInt8)(h:CA F n0 b TB X r0 S w):Bz An 139 #[.pointer (some ⟨b,0,none⟩),Cd x v,Cg s] w fun r w'=>r = .tuple #[D7 (GY F x.ty s).1,.bool (GY F x.ty s).2.1,.bool (GY F x.ty s).2.2]∧G w w':=by
 obtain ⟨fv,ms,mg,mn,mf,pv,sv,cv,rv,vs,sc,h⟩:=h;have g:=G.refl w;refine Cu 43 [0,1,2] Tryz.func139 ?_;refine CT fun _ _ _ _ g E=>?_;refine A5 fun _ _ _ _ g E=>?_;refine Aw (fun h1=>?_) fun h1=>?_;have hk:Ac (x.ty.k=4)=false:=by simpa using h1
 have e:GY F x.ty s=(Az,false,false):=by unfold GY;rw [hk];rfl
 refine AS fun _ _ _ g E=>?_;refine AN ?_;rw [e];exact ⟨rfl,g⟩;have hk:Ac (x.ty.k=4)=true:=by simpa using h1
 refine CJ (Al (Am (Dj [3,3,3,0,3,3,0,1,3,3,3,3,3] ?_)));refine FY fun g E=>?_;refine Ap J (C1 J (AE X1 J (Ct A3 J J ((h.B.A g).row.part 0 9) (AE Fg J (AE VC J (AM DW J (E.U.y J) (AO (xR F x.ty.name fv (fun k=>k<n0) _ (h.A g).L.hL (h.A g).L.hb (h.A g).L.hT (h.A g).kF h.hF) ?_)))))));rintro ak ah ⟨⟨lv,rfl,ab⟩,ae⟩;refine ⟨fun _=>ae,?_⟩;obtain ⟨fs,ad⟩:∃ fs,fs=(F8 F x.ty.name).1:=⟨_,rfl⟩;rw [← ad] at ab;have am:fs.length≤1000000:=by rw [ad];exact xE F _ h.hF
 obtain ⟨pf,cf,rfl,ao,_⟩:=id ab;have g:=g.trans ae;replace E:=E.A ae;refine Ad ?_;refine Hi (fun (i:Nat) u1=>(i≤fs.length∧(fs.drop i).find? (fun f=>Ac (f.name=s))=fs.find? (fun f=>Ac (f.name=s))∧Ly KY u1 fs (.slice pf fs.length cf))∧G ah u1) [(2,True,_),(6,True,_),(29,True,_),(30,True,_)] (fun (i:Nat)=>[(31,True,.int .i64 i)]) (fun (i:Nat)=>fs.length-i) (0) ⟨⟨CC _,rfl,ab⟩,G.refl _⟩ Bp ?_;rintro i u1 ⟨ai,aa⟩;have g:=g.trans aa;replace E:=E.A aa;clear ab;obtain ⟨hi,hf,ab⟩:=ai;refine Aw (fun h2=>?_) fun h2=>?_;have h2:i<fs.length:=by simp only [BM] at h2;omega
 obtain ⟨hpe,hcell⟩:=Ly.b5 Yk ab h2;rw [NR h2] at hf;refine Ad ?_;refine En J PK J ?_;intro al an ac;have aj:=ac.ge g;have af:=ac.ge aa;have ag:=ab;have g:=g.trans ac.g;have aa:=aa.trans (ac.g);have ab:=ab.A (ac.g);replace E:=E.new ac;refine AS fun _ ga _ g E=>?_;first|replace aa:=BJ aa ga O|clear aa|skip
 have ab:=ag.A (BJ ac.g ga (E8 ac.y.symm));refine Ai (Al (Am (Au (AE Xd J (AM DW J (E.J.y J) (Ap J (MD J J (Ai (Al (Cv J (fun h3=>?_) (fun h3=>?_)))))))))));have h3:=AH h3;rw [List.find?_cons_of_pos (by simpa using h3)] at hf;refine Am (Au (AE XP J (Ct Cf J J (E.J.row.part 1 2) (AS fun _ ga _ g E=>?_))));first|replace aa:=BJ aa ga O|clear aa|skip
 refine AN ?_;have e:GY F x.ty s=(fs[i].ty,true,true):=by unfold GY;rw [hk,AL,← ad,← hf]
 rw [e];exact ⟨rfl,g⟩;have h3:=CF h3;rw [List.find?_cons_of_neg (by simpa using h3)] at hf;refine Ad ?_;refine Ci [31,2,6,29,30] ?_;refine Ai (fun a ha=>?_);exact ⟨i+1,ha,⟨⟨h2,hf,ab⟩,aa⟩,O⟩;have h2:fs.length≤i:=by simp only [CB] at h2;omega
 rw [IM h2] at hf;refine AS fun _ ga _ g E=>?_;first|replace aa:=BJ aa ga O|clear aa|skip
 refine AN ?_;have e:GY F x.ty s=(Az,true,false):=by unfold GY;rw [hk,AL,← ad,← hf];rfl
 rw [e];exact ⟨rfl,g⟩
theorem CA.aa{F:Nd}{n0 b lo:Nat}{TB X Y:List Nat}{r0:Option (List Bo)}{S:Ak}{w w':Ae}{ks:List Nd}{s:AJ}(h:CA F n0 b TB X r0 S w)(hg:w.grownBy w' s.ownBlock)(hO:Dp Y lo w ks s)(hj:n0≤lo):CA F n0 b TB X r0 S w' :=
 h.ai hg fun k hk=>by
 obtain ⟨cs,fr,hc⟩:=hO.nd k hk;exact ⟨Ao hj (hO.ge k hk),cs,_,fr,hc,.inl rfl⟩
theorem Aay{F t:Nd}{S:Ak}(hs:D3 S)(i:Nat):JQ S (Gj (FA F t) S i).2:=Uu (fun i=>Lm F _) hs i
theorem bH{F t:Nd}{S:Ak}(hs:D3 S)(hc:EU S):∀ i,EU (Gj (FA F t) S i).2
 | 0=>hc
 | i+1=>(Pz F _).st _ ((Aay hs i).sc hs) (bH hs hc i)
theorem jH{F t:Nd}(S:Ak)(i:Nat):∀ k,Bg (Gj (FA F t) S i).2 (Gj (FA F t) S (i+k)).2
 | 0=>Bg.refl _
 | k+1=>(jH S i k).trans ((EG F (Aa t (i+k))).st _).e
theorem Aed{F t:Nd}(K:∀ i,i<t.j.length→D1 1000000 F 87 (Aa t i) (Af F (Aa t i)).st):D1 1000001 F 57 t (Af F t).M:=by
 intro n0 b TB X r0 S w v N h he hc ai hb ay
 have e:(Af F t).M S=(AF t (Gj (FA F t) S t.j.length).1 Az,(Gj (FA F t) S t.j.length).2):=by
  rw [GL];show (AF t (Gj (Av F t) S t.j.length).1 Az,(Gj (Av F t) S t.j.length).2)=_;rw [UH S _ (AA _)]
 rw [e];obtain ⟨p,c,rfl,_⟩:=id ai;have a6:=h.lt;have a1:=ED t;have hs:=h.az;have g:=AP.refl (CE X) n0 w;refine JM (m:=27) Tryz.func57 J J [(0,True,_),(1,True,_)] Bp ?_;refine CT fun b3 _ ga _ g E=>?_;have h:=Ar h;refine A5 fun b4 _ ga _ g E=>?_;have h:=Ar h;refine Ad ?_;refine AO (Ls t _ _ _) ?_;rintro _ _ ⟨rfl,ga⟩;refine A4 fun g E=>?_;have h:=AV h;refine A5 fun b5 _ ga _ g E=>?_;have h:=Ar h;refine AS fun _ ga Ca g E=>?_;have h:=h.C ga Ca O (.inl rfl);refine Ad ?_;have ag:=E.1;refine GR (fun (i:Nat) u1=>(i≤t.j.length∧(Gj (FA F t) S i).2.ee=0∧CA F n0 b TB X r0 (Gj (FA F t) S i).2 u1∧∃ s,Ax u1 b5 26 (De (DJ t) s)∧Dp [b3,b4,b5] w.heap.size u1 (Gj (FA F t) S i).1 s)∧AP (CE X) n0 w u1) _ [(0,True,_),(4,True,_),(5,True,_),(11,True,_),(12,True,_)] (fun (i:Nat)=>[(13,True,.int .i64 i)]) (fun (i:Nat)=>t.j.length-i) (0) ⟨⟨CC _,he,h,_,E.J,Kr _ _ _⟩,g⟩ (A6 (A7 E.g2) (A6 (A7 E.U) (Di _))) Bp ?_;clear E;rintro i u1 ⟨ap,aj⟩ ⟨B3,B4,_⟩;replace B3:Ax _ _ _ _:=B3;replace B4:Ax _ _ _ _:=B4;have g:=aj;obtain ⟨hi,al,h,s,B5,hO⟩:=ap;obtain ⟨sa,sc,rfl⟩:=hO.slice;have am:=ai.gt aj (fun k h=>h);have E:=GX (L:=[(b5,_,_),(b4,_,_),(b3,_,_)]) ag ⟨B5,B4,B3,Cc⟩ rfl;refine Aw (fun h1=>?_) fun h1=>?_;have h1:i<t.j.length:=by simp only [BM] at h1;omega
 obtain ⟨e0,p1,c1,hcell,aa⟩:=Ba am (i:=i) h1;have a5:E5 p<n0:=Gi am h1;have hq:D1 1000000 F 87 (Aa t i) (Af F (Aa t i)).st:=K i h1;have ak:=dW (F:=F) S i hi;have an:=ak.bd _ hb;have ax:=IK t (i+1);have a7:=It h1;have ar:CU t (i+1)=CU t i+DT t i:=rfl;have ad:=hO.lt;have aq:=V9 (FA F t) S i;refine A5 fun b7 _ ga _ g E=>?_;have hO:=Bq hO;have h:=Ar h;have aa:=Ar aa;refine AS fun _ ga Ca g E=>?_;have h:=h.C ga Ca O (.inl rfl);have hO:=AK hO;have aa:=Co aa;have ad:=hO.lt;refine Ad ?_;refine Dx (Qu X n0) [3,0,3,0,1,1,2,3,2] [0,1,0,0,12,28,63,127,255] CG Ag [0,1,2,3,4,5,6,7,8] J ?_;refine Da fun g E h=>?_;have hO:=hO.A (G.drew _);have aa:=aa.A (G.drew _);refine As 0 J J (fun _=>AB AY (Ab J)) (Bb 1 J J (fun w1 hx=>AZ Bh (Ab J) (fun _=>(E.U.gt hx J).y J)) (As 2 J J (Bm J) (Bb 3 J J (fun w1 hx=>A8 A3 (Ab J) J (fun _=>(E.J.gt hx J).row)) (AW 4 J J ?_))));refine Bt (L':=[5,6,7,8]) [3,0,3,0,2,1,2,3,2] J J J ?_;refine G0 J S8 J J (D1.to hq [b3,b4,b5,b7] h al (bH hs hc i) aa an O (E.Q Br) g.size) ((fun ch w' hz=>Dm.pass hz (by have:=jH (F:=F) (t:=t) S (i+1) (t.j.length-(i+1));rwa [show i+1+(t.j.length-(i+1))=t.j.length by omega] at this) (by rw [ak.w];exact AA _) g)) ?_;rintro av aw ⟨⟨az,a3,rfl,ao,ae⟩,ah,h,af⟩;refine EZ af fun g E=>?_;have hO:=hO.gt af rfl;refine Bs (af) ?_;refine AW 5 J J ?_;refine Bt (L':=[6,7,8]) [3,0,3,0,2,1,2,3,2] J J J ?_;refine Ck fun _ _ ac _ g E=>?_;have ae:=ae.new ac
 have hO:=hO.new ac;have h:=h.A (ac.g);refine Bs (AP.Y (ac.g)) ?_;refine AW 6 J J ?_;refine DN (L':=[7,8]) [3,0,3,0,2,1,2,3,2] J J J J ?_;have hO:=hO.sub (Y:=[b3,b4,b5]) DZ;have hOo:=hO;refine Hx J AC Cp J (Ab J) hO (Ab J) J E.J.row (Fl ae ao DZ (fun j hj=>.inr (ad j hj))) (by simp;omega) Dn ⟨by have:=g.size;omega,by have q3:=E.g4.lt;have q4:=E.g3.lt;have q5:=E.g2.lt;simp;omega⟩ ?_;intro a4 au a2 hO ab;replace E:=E.sel [false,false,true,true,true];replace E:=E.ab ab hOo.ne Br;have g:=EQ g ab Fo;have h:=h.aa ab hOo O;refine DL ?_;refine As 7 J J (fun _=>AB AY (Ab J)) (AW 8 J J ?_);refine DN (L':=[]) [3,0,3,0,2,1,2,3,2] J J J J ?_;refine AS fun _ ga Ca g E=>?_;have h:=h.C ga Ca O (.inl rfl);have hO:=AK hO;refine DL ?_;refine Dt [0,4,5,11,12,13] ?_;refine Ad ?_;refine Ci [13,0,4,5,11,12] ?_;refine Ai (fun a ha=>?_);exact ⟨i+1,ha,⟨⟨h1,ah,h,_,E.J,hO.sub DZ⟩,g⟩,(A6 (A7 E.g2) (A6 (A7 E.U) (Di _))),O⟩;have h1:i=t.j.length:=by simp only [CB] at h1;omega
 subst h1;refine AS fun _ ga Ca g E=>?_;have h:=h.C ga Ca O (.inl rfl);have hO:=AK hO;refine AN ?_;exact ⟨al,BO (t:=AF t _ Az) rfl (hO.sub (Y:=[b3,b4,b5]) DZ).kd,h,g⟩
def Xi(y:Bo):Prop:=E4 y = !Ac (8≤y.k)
structure MZ (F:Nd):Prop where
  res:S0 F
  glb:∀ s,0≤(A9 F 6 s).2→Xi (Bx (Aa (A9 F 6 s).1 0)).1
  fld:∀ s,∀ f∈(F8 F s).1,Xi f.ty
  one:∀ s,0≤(A9 F 6 s).2→(A9 F 4 s).2<0
def JO(F t:Nd)(S:Ak):Ak:=bif Ac (t.k=28) then ((Af F (Aa t 0)).ex S).2 else S
theorem Ags{F t:Nd}{x:Nat→FQ}{S:Ak}(HF:MZ F)(hk:t.k=27):(G4 F t x S).2=((M7 F S t.o).2 && !E4 (M7 F S t.o).1)∧(G4 F t x S).1=(Cx F S t).1∧((G4 F t x S).2=true→(Cx F S t).2=true):=by
 have e:G4 F t x S=((Cx F S t).1,((Cx F S t).2&&Ac ((Cx F S t).1.ref=2))&&Ac (8≤(Cx F S t).1.ty.k)):=by unfold G4;rw [BU hk];rfl
 rw [e];refine ⟨?_,rfl,fun h=>by simp only [CW] at h;exact h.1.1⟩;unfold M7
 cases hv:E9 S.F t.o with
 | some v=>rw [Vi hv];rfl
 | none =>
  cases hg:(H3 F t.o).2;rw [UA hv hg];show _=((H3 F t.o).2&&_);rw [hg,Bool.false_and];cases HP F t.o <;> rfl
  rw [Wf hv hg];show ((true&&true)&&Ac (8≤(H3 F t.o).1.k))=((H3 F t.o).2 && !E4 (H3 F t.o).1)
  have hq:0≤(A9 F 6 t.o).2:=by
   cases hq:Ac (0≤(A9 F 6 t.o).2);unfold H3 at hg;rw [hq] at hg;cases hg;exact AH hq
  have ht:(H3 F t.o).1=(Bx (Aa (A9 F 6 t.o).1 0)).1:=by unfold H3;rw [BU hq];rfl
  have:=HF.glb _ hq;rw [hg,ht,this];simp
theorem tF{F t:Nd}{x:Nat→FQ}{S:Ak}(HF:MZ F)(hk:t.k=28)(he:((x 0).ex S).2.ee=0):(G4 F t x S).2=((GY F ((x 0).ex S).1.ty t.o).2.2 && !E4 (GY F ((x 0).ex S).1.ty t.o).1)∧((G4 F t x S).2=true→(G4 F t x S).1=AF t [((x 0).ex S).1] (GY F ((x 0).ex S).1.ty t.o).1):=by
 have e:G4 F t x S=((Er F t x S).1.1,((Er F t x S).1.2&&Ac ((Er F t x S).2.ee=0))&&Ac (8≤(Er F t x S).1.1.ty.k)):=by unfold G4;rw [Aq O,BU hk];rfl
 rw [e];cases hq:Ac (((x 0).ex S).1.ty.k=4);have em:Er F t x S=((AF t [((x 0).ex S).1] Az,false),DV t.z 7 ((x 0).ex S).2):=by unfold Er;dsimp only;rw [hq];rfl
 have ef:GY F ((x 0).ex S).1.ty t.o=(Az,false,false):=by unfold GY;rw [hq];rfl
 rw [em,ef];exact ⟨rfl,fun h=>by cases h⟩
 cases hf:(F8 F ((x 0).ex S).1.ty.name).1.find? fun f=>Ac (f.name=t.o) with
 | none =>
  have em:Er F t x S=((AF t [((x 0).ex S).1] Az,false),DV t.z 5 ((x 0).ex S).2):=by unfold Er;dsimp only;rw [hq,AL,hf]
  have ef:GY F ((x 0).ex S).1.ty t.o=(Az,true,false):=by unfold GY;rw [hq,AL,hf]
  rw [em,ef];exact ⟨rfl,fun h=>by cases h⟩
 | some f =>
  have em:Er F t x S=((AF t [((x 0).ex S).1] f.ty,true),((x 0).ex S).2):=by unfold Er;dsimp only;rw [hq,AL,hf]
  have ef:GY F ((x 0).ex S).1.ty t.o=(f.ty,true,true):=by unfold GY;rw [hq,AL,hf]
  have:=HF.fld _ f (P1 hf);rw [em,ef];refine ⟨?_,fun _=>rfl⟩;show ((true&&Ac (((x 0).ex S).2.ee=0))&&Ac (8≤f.ty.k))=(true && !E4 f.ty);rw [BU he,this];simp
theorem WZ(F:Nd)(S:Ak)(t:Nd):(Cx F S t).1.j=[]:=by
 unfold Cx
 cases E9 S.F t.o with
 | some v=>rfl
 | none =>
  dsimp only;cases Ac (0≤(A9 F 6 t.o).2);cases Ac (0≤(A9 F 4 t.o).2) <;> rfl
  rfl
theorem Aex{F t:Nd}(HF:MZ F)(HX:t.k=28→0<t.j.length∧D1 1000000 F 113 (Aa t 0) (Af F (Aa t 0)).ex){n0 b:Nat}{TB X:List Nat}{r0:List Bo}{S:Ak}{w:Ae}{v:AJ}{N:Nat}(h:CA F n0 b TB X (some r0) S w)(he:S.ee=0)(hc:EU S)(ad:Bv w (fun k=>k<n0) t.j v)(hb:EO S N)(hn:N+count t≤1000000) :
 Gg An 169 #[.pointer (some ⟨b,0,none⟩),Cd t v] w (fun r w'=>(∃ x m z c,r = .tuple #[Cd x (.slice m z c),.bool ((Af F t).rcv S).2]∧(((Af F t).rcv S).2=true→x=((Af F t).rcv S).1∧Ii x w.heap.size (Cd x (.slice m z c)) w'))∧(JO F t S).ee=0∧CA F n0 b TB X (some r0) (JO F t S) w'∧AP (CE X) n0 w w') (Dm n0 b X (S.w+1) (JO F t S) w):=by
 obtain ⟨p,c,rfl,_⟩:=id ad;have ba:=h.lt;have ac:=h.tb;have hs:=h.az;have htb2:∀ j∈TB,j<w.heap.size:=fun j hj=>ac.2 j (ac.1 j hj);have er:(Af F t).rcv S=G4 F t (Av F t) S:=by rw [GL];rfl
 rw [er];have g:=AP.refl (CE X) n0 w;refine JM (m:=65) Tryz.func169 J J [(0,True,_),(1,True,_)] Bp ?_;refine CT fun b3 _ ga _ g E=>?_;have a7:=h;have h:=Ar h;have ad:=Ar ad;refine A5 fun b4 _ ga _ g E=>?_;have bb:=h;have h:=Ar h;have ad:=Ar ad;refine Aw (fun h1=>?_) fun h1=>?_;have h1:t.k=27:=AH h1;obtain ⟨r1,r2,r3⟩:=Ags (x:=Av F t) (S:=S) HF h1;have es:JO F t S=S:=by unfold JO;rw [Aq O];rfl
 have ak:F1 t=0:=by unfold F1 Ie;rw [Aq O,Aq O];rfl
 refine Ad ?_;refine AO (Acy h hb O t.o) ?_;rintro _ _ ⟨rfl,ga⟩;refine A4 fun g E=>?_;have h:=AV h;refine A5 fun _ _ N6 _ g E=>?_;have au:=h;have h:=h.A (N6.g);have h:=au.ak N6;refine Cz fun _ ga Ca g E h=>?_
 refine Ad ?_;refine GA (fun hc=>Px (M7 F S t.o).1 _ h.laid.hL h.laid.hb) (fun a5 ah=>?_);have g:=BZ g ah;replace E:=E.A ah;have h:=h.A (ah);refine Aw (fun h2=>?_) fun h2=>?_;have hl:=r3 (r1.trans h2);refine Ad ?_;refine G0 J WH J J (WL t _ _ h hb O HF.res ak) ((fun ch w' hz=>by rw [hl] at hz;exact Ha hz.1)) ?_;rintro _ _ ⟨_,rfl,ga⟩;refine A4 fun g E=>?_;have h:=AV h;refine Cz fun _ ga Ca g E h=>?_
 refine AN ?_;rw [es];refine ⟨⟨(Cx F S t).1,none,0,0,by rw [r1,h2],fun _=>⟨r2.symm,?_⟩⟩,he,h.sub ac.1 (by intro j hj;simp [hj]),g⟩;exact Po _ _ _ (WZ F S t);refine Cz fun _ ga Ca g E h=>?_
 refine AN ?_;rw [es];exact ⟨⟨Fr,none,0,0,by rw [r1,h2];rfl,fun q=>by rw [r1,h2] at q;cases q⟩,he,h.sub ac.1 (by intro j hj;simp [hj]),g⟩;have h1:t.k≠27:=CF h1;refine Aw (fun h3=>?_) fun h3=>?_;have h3:t.k=28:=AH h3;obtain ⟨ag,HX⟩:=HX h3;have es:JO F t S=((Af F (Aa t 0)).ex S).2:=by unfold JO;rw [BU h3];rfl
 have al:Av F t 0=Af F (Aa t 0):=Dq ag;obtain ⟨e0,p1,c1,hcell,am⟩:=Ba ad (i:=0) ag;have bc:=It ag;have az:=IK t 1;have ay:CU t 1=0+DT t 0:=rfl;refine Ad ?_;refine G0 J LY J J (D1.to HX [b3,b4] h he hc am hb O (E.Q Br) g.size) ((fun ch w' hz=>Dm.pass hz (by rw [es];exact Bg.refl _) (AA _) g)) ?_;rintro a3 a8 ⟨⟨a9,a4,rfl,ao,aa⟩,ai,h,ap⟩;refine EZ ap fun g E=>?_;obtain ⟨r1,r2⟩:=tF (x:=Av F t) (S:=S) HF h3 (by rw [al];exact ai);rw [al] at r1 r2;refine A5 fun _ _ ga _ g E=>?_;have a6:=h;have aa:=Bq aa;have h:=Ar h;refine Cz fun _ ga Ca g E h=>?_
 have aa:=aa.C ga Ch;refine Ad ?_;refine AO (ZB ((Af F (Aa t 0)).ex S).1 _ t.o h) ?_;rintro _ _ ⟨rfl,ga⟩;refine A4 fun g E=>?_;have h:=AV h;have aa:=AV aa;refine A5 fun _ _ N9 _ g E=>?_;have aq:=h;have aa:=aa.new N9;have h:=h.A (N9.g);have h:=aq.ak N9;refine Cz fun _ ga Ca g E h=>?_
 have aa:=aa.C ga Ch;refine Ad ?_;refine GA (fun hc=>Px (GY F ((Af F (Aa t 0)).ex S).1.ty t.o).1 _ h.laid.hL h.laid.hb) (fun a1 af=>?_);have g:=BZ g af;replace E:=E.A af;have h:=h.A (af);have aa:=aa.A (af);refine Aw (fun h4=>?_) fun h4=>?_;(try simp only [BH] at h4);refine Ad ?_;refine AO (Ls t _ _ _) ?_;rintro _ _ ⟨rfl,ga⟩;refine A4 fun g E=>?_;have h:=AV h;have aa:=AV aa;refine A5 fun an _ ga _ g E=>?_;have aw:=h;have aa:=Bq aa;have h:=Ar h;refine Cz fun _ ga Ca g E h=>?_
 have aa:=aa.C ga Ch;refine Ad ?_;refine Dx (Ej (some an)) [0,1,0,3,1,3,1] [0,1,0,3,11,31,63] CG Ag [0,1,2,3,4,5,6] J ?_;refine Da fun g E h=>?_;have aa:=aa.A (G.drew _);refine Bb 0 J J (fun w1 hx=>A8 A3 (Ab J) J (fun _=>(E.g2.C hx (fun h=>E.ne 2 0 J J J (EM h))).row)) (Bb 2 J J (fun w1 hx=>A8 Cf (Ab J) J (fun _=>(E.U.C hx (fun h=>E.ne 1 0 J J J (EM h))).row)) (AW 1 J J ?_));refine Bt (L':=[3,4,5,6]) [0,1,0,3,2,3,2] J J J ?_;refine Ck fun _ _ aj av g E=>?_;have ax:=h;have aa:=aa.new aj;have h:=h.A (aj.g);refine Bs ((aj.g).O _) ?_;refine As 3 J J (fun _=>AB AY (Ab J)) (AW 4 J J ?_);refine Bt (L':=[5,6]) [0,1,0,3,2,3,2] J J J ?_;refine AS fun _ ae Ca g E=>?_;have h:=h.C ae Ca O Gl
 have aa:=aa.C ae Ch;refine Bs (ae) ?_;refine As 5 J J (fun _=>AB Fg (Ab J)) (AW 6 J J ?_);refine Bt (L':=[]) [0,1,0,3,2,3,2] J J J ?_;refine Df J ET (Ab J) (Ab J) J J E.U J J ?_;intro a2 ab _ BS;have ar:=E.U;replace E:=E.s1 ab BS;have g:=Cw g ab O;have h:=h.C ab ar O Gl
 have aa:=aa.C ab Ch;refine Bs (ab) ?_;refine Dt [4,5,12] ?_;refine Cz fun _ ga Ca g E h=>?_
 have aa:=aa.C ga Ch;refine AN ?_;rw [es];refine ⟨⟨AF t [_] _,_,_,_,by rw [r1,h4];rfl,fun q=>⟨(r2 q).symm,?_⟩⟩,ai,h.sub ac.1 (by intro j hj;simp [hj]),g⟩;exact BO (t:=AF t [_] _) rfl (Ec (ks:=[_]) ⟨av,DK E.J⟩ E.J.row (DG (aa.W ao)) (AA _));refine Cz fun _ ga Ca g E h=>?_
 refine AN ?_;rw [es];exact ⟨⟨Fr,none,0,0,by rw [r1,h4];rfl,fun q=>by rw [r1,h4] at q;cases q⟩,ai,h.sub ac.1 (by intro j hj;simp [hj]),g⟩;have h3:t.k≠28:=CF h3;have es:JO F t S=S:=by unfold JO;rw [Aq h3];rfl
 have r0:G4 F t (Av F t) S=(Fr,false):=by unfold G4;rw [Aq h1,Aq h3];rfl
 refine Cz fun _ ga Ca g E h=>?_
 refine AN ?_;rw [es,r0];exact ⟨⟨Fr,none,0,0,rfl,fun q=>by cases q⟩,he,h.sub ac.1 (by intro j hj;simp [hj]),g⟩
end Go.Rk
