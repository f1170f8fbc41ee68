/- Merged texts. Conditions: each text's own. -/
import Derived.Test.YtddkmmfmmamipaaGreatDoorM02
import Derived.Test.YtddkmmfmmamipaaGreatDoorM01
import Derived.MapKept
set_option linter.unusedSimpArgs false
set_option linter.unusedVariables false
set_option maxHeartbeats 16000000
set_option maxRecDepth 100000
open Array renaming getElem?_eq_some_iff→GB,getElem?_setIfInBounds→MM
open Bool renaming and_assoc→Ap,and_eq_true→Cr,and_eq_true_iff→DF,true_and→Fe,false_and→FB,eq_iff_iff→FS,or_eq_false_iff→F9,or_false→Gg,and_true→Hf,and_comm→HA,and_left_comm→I4
open Go renaming World→Ad,TypeId→Aw,PanicEntry→Bd,Operand→A7,Program→BH,Value→Ak
open Go.World renaming cell?_of_block→Dt
open List renaming getElem_mem→AN,all_eq_true→BM,getD_eq_getElem?_getD→Cl,all_eq_false→CW,getElem_of_mem→Dv,getElem?_eq_none→DV,getElem?_eq_getElem→Eb,range→Ei,mem_range→EG,getElem?_map→E1,mem_append→Fy,mem_reverse→FP,mem_cons_self→Gx,mem_cons_of_mem→Gz,range_succ→HJ,mem_singleton→HZ,append_assoc→Ih,length_cons→Ic,map_cons→It,drop_eq_getElem_cons→IG,length_eq_zero_iff→Jb,length_eq_one_iff→Jo,mem_of_mem_take→Jm,length_reverse→Ka,dropWhile_sublist→J9,reverse_append→Ke,length_append→LD,mem_of_find?_eq_some→Lz,filter_cons_of_neg→Ns,filter_cons_of_pos→NI,take_append_drop→Ny
open Nat renaming zero_le→Bh,not_lt_zero→CQ,le_trans→Dg,le_refl→HN,lt_of_lt_of_le→Ik
open Option renaming none_or→G0
open Decidable renaming decide→Ae
namespace Go.Proofs
end Go.Proofs
namespace Go.Rk
open Go.Proofs
open Go Go.RowKit
def V(t:Nd)(i:Nat):Nd:=t.b.getD i EN
theorem D6{t:Nd}{i:Nat}(h:i<t.b.length):V t i=t.b[i]:=by simp [V,Cl,Eb h]
def Fa(t:Nd)(qs:List (Int→Bool)):Bool:=Ae (t.b.length=qs.length)&&(Ei qs.length).all fun i=>(qs.getD i (fun _=>false)) (V t i).c
def Hx(t:Nd)(q:Int→Bool):Bool:=t.b.all fun k=>q k.c
theorem Lg(t:Nd)(p:Option Addr)(c:Nat)(D:Nat→Prop)(qs:List (Int→Bool))(vs:List Ak)(b o ai:Nat)(w:Ad)(hk:Bo w D t.b (.slice p t.b.length c))(hl:vs.length=qs.length)(hR:Cv w b o vs)
 (hF:∀ i (h:i<vs.length),Ms Aj (qs.getD i (fun _=>false)) vs[i] w) (hc:t.b.length≤1000000):Bx Aj 111 #[BV t (.slice p t.b.length c),.slice (some ⟨b,o,none⟩) qs.length ai] w fun v w'=>v = .bool (Fa t qs)∧G w w':=by
 have g:=G.refl w;obtain ⟨p',c',hpe,_,ag⟩:=hk;injection hpe with hpe _ ah;subst hpe ah;refine Cj 30 [0,1] Tryz.func111 ?_;refine CN fun _ w2 _ _ g E=>?_;refine Az (fun h1=>?_) fun h1=>?_
 have hN:Fa t qs=false:=by
  have:¬ t.b.length=qs.length:=by simp at h1;omega
  rw [Fa,Aq this];rfl
 refine AC ?_;rw [hN];exact ⟨rfl,g⟩;have ad:t.b.length=qs.length:=by simp at h1;omega
 refine CU (kq (Ao (Ao (Ay (As U (ED Ts U (As U (Al (kq (DY (GZ (fun (i:Nat) u1=>(i≤qs.length∧∀ j,j<i→(qs.getD j (fun _=>false)) (V t j).c=true)∧G w2 u1) [(2,True,_),(13,True,_),(14,True,_)] (fun (i:Nat)=>[(15,True,.int .i64 i)]) (fun (i:Nat)=>qs.length-i) (0) ⟨⟨Bh _,fun j hj=>absurd hj (CQ j)⟩,G.refl _⟩ (K U (K U (K U (K U (Bm _))))) ?_)))))))))));rintro i u1 ⟨ac,aa⟩;have g:=g.trans aa;replace E:=E.a aa;refine Ao (Ay (G2 U U (Al (kq (Ao (CB U (fun h2=>?_) (fun h2=>?_)))))));have h2:i<qs.length:=by simp only [BQ] at h2;omega
 obtain ⟨f,fs,cs,aj,af,hf⟩:=hF i O;have hv:=hR i _ (Eb (show i<vs.length by omega));rw [aj] at hv;obtain ⟨b2,o2,rfl,hD,xs,ae,hX⟩:=ag O;obtain ⟨p2,c2,hcell,_⟩:=I9 ae hX (show i<t.b.length by omega);rw [← D6] at hcell;refine CU (kq (Ao (DY (Ao (Ay (As U (Hh Ts U U O (AL Sa U (by have:=QM g hv;simpa using this) (BO U (BO U (Al (kq (Ao (Ay (As U (AF AW U (AL Bj U (E.E.j U) (?_))))))))))))))))));refine As U (Hh AB U U O (AF FK U (AL Cd U ((hcell.a g) 0 _ U) (F1 U (BK af (H U) (CF U CT) U) (hf _ _ g) (fun ak ab=>?_)))));have g:=g.trans ab;have aa:=aa.trans (ab);replace E:=E.a ab;refine Az (fun h3=>?_) fun h3=>?_;(try simp only [BJ] at h3);refine Cw ?_;rw [eq_comm,Fa,BW ad,Fe,CW];exact ⟨i,EG.2 h2,by simpa using h3⟩;refine R ?_;refine BL [15,2,13,14] ?_;refine Al (fun a ha=>?_);refine ⟨i+1,ha,⟨⟨h2,fun j hj=>?_⟩,aa⟩,O⟩;by_cases e:j=i;subst e;simpa using h3;exact ac.2 j O;refine Cw ?_;rw [eq_comm,Fa,BW ad,Fe,BM];intro j hj;exact ac.2 j (by have:=EG.1 hj;simp only [CK] at h2;omega)
theorem QY(t:Nd)(p:Option Addr)(c:Nat)(D:Nat→Prop)(q:Int→Bool)(v:Ak)(w:Ad)(hk:Bo w D t.b (.slice p t.b.length c))(hF:Ms Aj q v w)(hc:t.b.length≤1000000):Bx Aj 110 #[BV t (.slice p t.b.length c),.int .i64 0,v] w fun v w'=>v = .bool (Hx t q)∧G w w':=by
 have g:=G.refl w;obtain ⟨p',c',hpe,_,ag⟩:=hk;injection hpe with hpe _ ah;subst hpe ah;obtain ⟨f,fs,cs,rfl,af,hf⟩:=hF;refine Cj 29 [0,1,2] Tryz.func110 ?_;refine CN fun _ w3 _ _ g E=>?_;refine BO U (Al (kq (Ao (Ao (Ay (AF AW U (AL Bj U (E.E.j U) (ED AB U (As U (G2 U U (Al (kq (CB U (fun h1=>?_) (fun h1=>?_))))))))))))))
 ·exfalso;simp only [BQ] at h1;omega
  done
 refine CU (kq (Ao (Ao (Ay (AF AW U (AL Bj U (E.E.j U) (As U (AG U (fun _=>fS AB (H U) (H U)) (ED AB U (As U (Al (kq (DY (GZ (fun (i:Nat) u1=>(i≤t.b.length∧∀ j,(h:j<t.b.length)→j<i→q t.b[j].c=true)∧G w3 u1) [(2,True,_),(17,True,_),(18,True,_)] (fun (i:Nat)=>[(19,True,.int .i64 i)]) (fun (i:Nat)=>t.b.length-i) (0) ⟨⟨Bh _,fun j _ hj=>absurd hj (CQ j)⟩,G.refl _⟩ (K U (K U (K U (K U (Bm _))))) ?_))))))))))))));rintro i u1 ⟨ac,aa⟩;have g:=g.trans aa;replace E:=E.a aa;refine Ao (Ay (G2 U U (Al (kq (Ao (CB U (fun h2=>?_) (fun h2=>?_)))))))
 ·have h2:i<t.b.length:=by simp only [BQ] at h2;omega
  obtain ⟨b2,o2,rfl,hD,xs,ae,hX⟩:=ag O;obtain ⟨p2,c2,hcell,_⟩:=I9 ae hX h2;refine CU (kq (Ao (DY (Ao (Ay (Hh AB U U O (CH A3 U U (hcell.a g) (A1 fun _ _ ga _ g E=>?_))))))));have ad:=ga.ge aa;have aa:=aa.trans (ga.g);refine AS fun _ ga _ g E=>?_;replace aa:=CO aa ga O;refine R ?_;refine F1 U (BK af (H U) (CF U CT) U) (hf _ _ g) (fun ai ab=>?_);have g:=g.trans ab;have aa:=aa.trans (ab);replace E:=E.a ab;refine Az (fun h3=>?_) fun h3=>?_
  ·(try simp only [BJ] at h3)
   refine Cw ?_;rw [eq_comm,Hx,CW];exact ⟨_,AN h2,by simpa using h3⟩
  refine R ?_;refine BL [19,2,17,18] ?_;refine Al (fun a ha=>?_);refine ⟨i+1,ha,⟨⟨h2,fun j h hj=>?_⟩,aa⟩,O⟩;by_cases e:j=i
  · subst e;simpa using h3
  · exact ac.2 j h O
 refine Cw ?_;rw [eq_comm,Hx,BM];intro x hx;obtain ⟨j,hj,rfl⟩:=Dv hx;exact ac.2 j hj (by simp only [CK] at h2;omega)
def LX(t:Nd):Bool:=bif Ct [9,16] t.c then true
 else bif Ct [13,11] t.c then Ae (((t.b.length:Int)-1)=0)&&Ae ((V t 0).c=33)
 else bif Ae (t.c=12) then Ae (((t.b.length:Int)-1)=1)&&Ae ((V t 1).c=33) else false
theorem Ba{w:Ad}{D:Nat→Prop}{t:Nd}{p:Option Addr}{c:Nat}(hk:Bo w D t.b (.slice p t.b.length c)){i:Nat}(h:i<t.b.length):p=some ⟨E5 p,Gq p,none⟩∧∃ p' c',Cv w (E5 p) (Gq p+i*9) (Cs (V t i) (.slice p' (V t i).b.length c'))∧Bo w D (V t i).b (.slice p' (V t i).b.length c'):=by
 obtain ⟨p',c',hpe,_,aa⟩:=hk;injection hpe with hpe _ ac;subst hpe ac;obtain ⟨b2,o2,rfl,hD,xs,ab,hX⟩:=aa O;refine ⟨rfl,?_⟩;rw [D6 h];exact I9 ab hX h
theorem gG(t:Nd)(p:Option Addr)(c:Nat)(D:Nat→Prop)(w:Ad)(hk:Bo w D t.b (.slice p t.b.length c))(hc:t.b.length≤1000000):Bx Aj 116 #[BV t (.slice p t.b.length c)] w fun v w'=>v = .bool (LX t)∧G w w':=by
   have g:=G.refl w
   refine Cj 38 [0] Tryz.func116 ?_
   refine CN fun _ _ _ _ g E=>?_
   refine R ?_
   refine' AZ [1,2,3,9] (fun aa=>?y1) (kq ?n1)
   case y1 =>
    refine R ?_
    refine BL [10,1,2,3,9] ?_
    exact Al AX
   case n1 =>
    refine Az (fun h2=>?_) fun h2=>?_
    · have h2:(Ct [9,16] t.c)=true:=h2
      refine Cw ?_
      unfold LX;simp only [h2,A8,A0] <;> rfl
    have h2:(Ct [9,16] t.c)=false:=h2
    refine R ?_
    refine' AZ [1,2,3,9] (fun ab=>?y3) (kq ?n3)
    case y3 =>
     refine R ?_
     refine BL [13,1,2,3,9] ?_
     exact Al AX
    case n3 =>
     refine Az (fun h4=>?_) fun h4=>?_
     · have h4:(Ct [13,11] t.c)=true:=h4
       refine Ao (Ay (As U (FM U U (As U (AD U U U (fun _=>AE AW (H U)) (BU U U U (AU Bj (Am U id) (fun _=>E.E.j U)) (AD U U U (fun _=>CS AB (Am U id) Bl (fun hc=>by have:=AV hc.2;omega) (fun hc=>(Ba hk (i:=0) (by have:=AV hc.2;omega)).1)) (AD U U U (fun _=>AE FK (Am U id)) (BU U U U (AU Cd (Am U id) (fun hc=>by
 obtain ⟨_,p',c',hcell,_⟩:=Ba hk (i:=0) (by have:=AV hc.2;omega)
 exact (hcell.a g) 0 _ rfl)) (AD rfl rfl rfl (fun _=>GA (Am rfl id) Bl) (AG rfl (fun _=>ES (H rfl) (Am rfl id)) (BO rfl (Al (kq (DZ (FJ rfl rfl ?_))))))))))))))))
       refine ⟨Ib ?_,g⟩
       unfold LX;simp only [h2,h4,A8,A0] <;> rfl
     have h4:(Ct [13,11] t.c)=false:=h4
     refine Az (fun h5=>?_) fun h5=>?_
     · (try simp only [BJ] at h5)
       refine Ao (Ay (As U (FM U U (As U (AD U U U (fun _=>AE AW (H U)) (BU U U U (AU Bj (Am U id) (fun _=>E.E.j U)) (AD U U U (fun _=>CS AB (Am U id) Bl (fun hc=>by have:=AV hc.2;omega) (fun hc=>(Ba hk (i:=1) (by have:=AV hc.2;omega)).1)) (AD U U U (fun _=>AE FK (Am U id)) (BU U U U (AU Cd (Am U id) (fun hc=>by
 obtain ⟨_,p',c',hcell,_⟩:=Ba hk (i:=1) (by have:=AV hc.2;omega)
 exact (hcell.a g) 0 _ rfl)) (AD rfl rfl rfl (fun _=>GA (Am rfl id) Bl) (AG rfl (fun _=>ES (H rfl) (Am rfl id)) (BO rfl (Al (kq (DZ (FJ rfl rfl ?_))))))))))))))))
       refine ⟨Ib ?_,g⟩
       unfold LX;simp only [h2,h4,h5,A8,A0] <;> rfl
     refine Cw ?_
     unfold LX;simp only [h2,h4,h5,A8,A0] <;> rfl
def Hw(t:Nd):Bool:=bif Ct [2,3,4,6,11,28,27,34,8] t.c then FE t.i
 else bif Ae (t.c=31) then Ae (t.i=[45]) || Ae (t.i=[33])
 else bif Ae (t.c=32) then Er Lb t.i
 else bif Ae (t.c=7) then Is t.i
 else Ae (t.i=[])
theorem rY(t:Nd)(p:Option Addr)(c:Nat)(w:Ad)(hL:Laid w)(af:10≤w.heap.size):Bx Aj 90 #[BV t (.slice p t.b.length c)] w fun v w'=>v = .bool (Hw t)∧G w w':=by
 have g:=G.refl w;refine Cj 64 [0] Tryz.func90 ?_;refine CN fun _ _ _ _ g E=>?_;refine R ?_;refine' AZ [1,2,4] (fun a5=>?y1) (kq ?n1)
 case y1 =>
  refine R ?_;refine' AZ [1,2,4] (fun a8=>?y2) AX
  case y2 =>
   refine R ?_;refine' AZ [1,2,4] (fun af=>?y3) AX
   case y3 =>
    refine R ?_;refine' AZ [1,2,4] (fun a3=>?y4) AX
    case y4 =>
     refine R ?_;refine' AZ [1,2,4] (fun ba=>?y5) AX
     case y5 =>
      refine R ?_;refine' AZ [1,2,4] (fun a4=>?y6) AX
      case y6 =>
       refine R ?_;refine' AZ [1,2,4] (fun a7=>?y7) AX
       case y7 =>
        refine R ?_;refine' AZ [1,2,4] (fun a6=>?y8) AX
        case y8 =>
         refine R ?_;refine BL [5,1,2,4] ?_;exact Al AX
 case n1 =>
  refine Az (fun h9=>?_) fun h9=>?_;have h9:(Ct [2,3,4,6,11,28,27,34,8] t.c)=true:=h9;refine R ?_;refine DA (kU _ _ (hL.a g) Dj) (Do fun bc a9 g E=>?_);refine Cw ?_;unfold Hw;simp only [Lb,Is,Ig,Er,h9,A8,A0] <;> rfl
  have h9:(Ct [2,3,4,6,11,28,27,34,8] t.c)=false:=h9;refine Az (fun aa=>?_) fun aa=>?_;(try simp only [BJ] at aa);refine Cw ?_;unfold Hw;simp only [Lb,Is,Ig,Er,h9,aa,A8,A0] <;> rfl
  refine Az (fun ab=>?_) fun ab=>?_;(try simp only [BJ] at ab);refine R ?_;refine' AZ [1,2] (fun ar=>?y12) (kq ?n12)
  case y12 =>
   refine R ?_;refine' AZ [1,2] (fun ai=>?y13) AX
   case y13 =>
    refine R ?_;refine' AZ [1,2] (fun ak=>?y14) AX
    case y14 =>
     refine R ?_;refine' AZ [1,2] (fun a2=>?y15) AX
     case y15 =>
      refine R ?_;refine' AZ [1,2] (fun a0=>?y16) AX
      case y16 =>
       refine R ?_;refine' AZ [1,2] (fun au=>?y17) AX
       case y17 =>
        refine R ?_;refine' AZ [1,2] (fun ay=>?y18) AX
        case y18 =>
         refine R ?_;refine' AZ [1,2] (fun aw=>?y19) AX
         case y19 =>
          refine R ?_;refine' AZ [1,2] (fun ap=>?y20) AX
          case y20 =>
           refine R ?_;refine' AZ [1,2] (fun av=>?y21) AX
           case y21 =>
            refine R ?_;refine' AZ [1,2] (fun aj=>?y22) AX
            case y22 =>
             refine R ?_;refine' AZ [1,2] (fun aq=>?y23) AX
             case y23 =>
              refine R ?_;refine BL [32,1,2] ?_;exact Al AX
  case n12 =>
   refine Az (fun ad=>?_) fun ad=>?_;(try simp only [BJ] at ad);refine Cw ?_;unfold Hw;simp only [Lb,Is,Ig,Er,h9,aa,ab,ad,A8,A0] <;> rfl
   refine Cw ?_;unfold Hw;simp only [Lb,Is,Ig,Er,h9,aa,ab,ad,A8,A0] <;> rfl
  refine Az (fun ac=>?_) fun ac=>?_;(try simp only [BJ] at ac);refine R ?_;refine' AZ [1,2] (fun a1=>?y26) (kq ?n26)
  case y26 =>
   refine R ?_;refine' AZ [1,2] (fun al=>?y27) AX
   case y27 =>
    refine R ?_;refine' AZ [1,2] (fun ag=>?y28) AX
    case y28 =>
     refine R ?_;refine' AZ [1,2] (fun ah=>?y29) AX
     case y29 =>
      refine R ?_;refine' AZ [1,2] (fun ao=>?y30) AX
      case y30 =>
       refine R ?_;refine' AZ [1,2] (fun am=>?y31) AX
       case y31 =>
        refine R ?_;refine' AZ [1,2] (fun ax=>?y32) AX
        case y32 =>
         refine R ?_;refine' AZ [1,2] (fun az=>?y33) AX
         case y33 =>
          refine R ?_;refine' AZ [1,2] (fun an=>?y34) AX
          case y34 =>
           refine R ?_;refine BL [50,1,2] ?_;exact Al AX
  case n26 =>
   refine Az (fun ae=>?_) fun ae=>?_;(try simp only [BJ] at ae);refine Cw ?_;unfold Hw;simp only [Lb,Is,Ig,Er,h9,aa,ab,ac,ae,A8,A0] <;> rfl
   refine Cw ?_;unfold Hw;simp only [Lb,Is,Ig,Er,h9,aa,ab,ac,ae,A8,A0] <;> rfl
  refine Cw ?_;unfold Hw;simp only [Lb,Is,Ig,Er,h9,aa,ab,ac,A8,A0] <;> rfl
theorem SU{w:Ad}{D:Nat→Prop}{t:Nd}{p:Option Addr}{c:Nat}(hk:Bo w D t.b (.slice p t.b.length c))(i:Nat):∃ p' c',i<t.b.length→p=some ⟨E5 p,Gq p,none⟩∧Cv w (E5 p) (Gq p+i*9) (Cs (V t i) (.slice p' (V t i).b.length c'))∧Bo w D (V t i).b (.slice p' (V t i).b.length c'):=by
 by_cases h:i<t.b.length;obtain ⟨h1,p',c',h2,h3⟩:=Ba hk h;exact ⟨p',c',fun _=>⟨h1,h2,h3⟩⟩;exact ⟨none,0,fun h'=>absurd h' h⟩
def Cp(t:Nd)(n:Int):Bool:=Ae ((t.b.length:Int)=n)
def KO(k:Nd):Bool:=Ae (k.c=6)&&(!Cp k 2 || !Ae ((V k 1).c=9))
def Ex(t:Nd):Bool :=
 bif Ae (t.c=1) then !(t.b.any KO)&&Hx t (CX [2,6,4])
 else bif Ct [2,5] t.c then Hx t (CX [3])
 else bif Ae (t.c=3) then Fa t [Il]
 else bif Ae (t.c=4) then Fa t [CX [5],fun k=>Il k || CX [9] k,CX [10]]
 else bif Ae (t.c=6) then Fa t [Il,fun k=>FA k || CX [9] k]
 else bif Ae (t.c=10) then Hx t MD
 else bif Ct [11,17,21,28,31,33,35,36,37] t.c then Fa t [FA]
 else bif Ct [12,16,29,32] t.c then Fa t [FA,FA]
 else bif Ae (t.c=13) then Fa t [CX [30,33]]
 else bif Ct [14,15] t.c then Fa t [CX [30]]
 else bif Ae (t.c=18) then Fa t [FA,CX [10],CX [10,18,9]]
 else bif Ae (t.c=19) then Fa t [fun k=>FA k || CX [9] k,CX [10]]
 else bif Ae (t.c=20) then Cp t 0 || Fa t [FA]
 else bif Ae (t.c=22) then Hx t (CX [23])
 else bif Ae (t.c=23) then (Cp t 2&&LX (V t 0))&&CX [10] (V t 1).c
 else bif Ae (t.c=30) then Ae ((0:Int)<t.b.length)&&Hx t FA
 else bif Ae (t.c=24) then Cp t 0&&Ae (0≤t.num)
 else bif Ae (t.c=25) then Cp t 0&&(Ae (t.num=0) || Ae (t.num=1))
 else bif Ct [27,34,26,9,7,8] t.c then Cp t 0
 else bif Ae (t.c=38) then Fa t [CX [10]]
 else false
theorem vY(t:Nd)(p:Option Addr)(c:Nat)(D:Nat→Prop)(w:Ad)(hk:Bo w D t.b (.slice p t.b.length c))(hc:t.b.length≤1000000)(d0:∀ i,(V t i).b.length≤1000000):Bx Aj 91 #[BV t (.slice p t.b.length c)] w fun v w'=>v = .bool (Ex t)∧G w w':=by
   have g:=G.refl w
   have e0:=hc
   refine Cj 221 [0] Tryz.func91 ?_
   refine CN fun _ _ _ _ g E=>?_
   refine Ch fun _ _ _ _ g E=>?_
   refine AK (L6 [10] _ _ _ _ E.E.row Cb) ?_
   rintro v8 w8 ⟨bc,g8⟩
   have fo:=bc
   obtain ⟨f8,jj,jq,rfl,ei,fw⟩:=fo
   refine ER g8 fun g=>?_
   replace E:=E.a g8
   have ab:=G.refl w8
   refine Ch fun _ _ ga _ g E=>?_
   have fb:=ga.ge ab
   have ab:=ab.trans (ga.g)
   refine AK (L6 [3] _ _ _ _ E.E.row Cb) ?_
   rintro i4 d3 ⟨cg,g10⟩
   have e1:=cg
   obtain ⟨jn,ij,hh,rfl,fm,gp⟩:=e1
   refine ER g10 fun g=>?_
   have ab:=ab.trans (g10)
   replace E:=E.a g10
   have aa:=G.refl d3
   refine Az (fun h1=>?_) fun h1=>?_
   · (try simp only [BJ] at h1)
     refine R ?_
     refine GZ (fun (i:Nat) u1=>(i≤t.b.length∧∀ j,(h:j<t.b.length)→j<i→KO t.b[j]=false)∧G d3 u1) [(1,True,_),(16,True,_),(17,True,_)] (fun (i:Nat)=>[(18,True,.int .i64 i)]) (fun (i:Nat)=>t.b.length-i) (0) ⟨⟨Bh _,fun j _ hj=>absurd hj (CQ j)⟩,G.refl _⟩ (K U (K U (K U (K U (Bm _))))) ?_
     rintro i u1 ⟨eb,al⟩
     have g:=g.trans al
     have ab:=ab.trans al
     have aa:=aa.trans al
     replace E:=E.a al
     refine Az (fun h2=>?_) fun h2=>?_
     · have h2:i<t.b.length:=by simp only [BQ] at h2;omega
       obtain ⟨hpe,p2,c2,hcell,b8⟩:=Ba hk h2
       have ig:=d0 i
       refine CU (kq (Ao (DY (Ao (Ay (Dn AB U U O hpe (CH A3 U U (hcell.a g) (A1 fun _ _ ga _ g E=>?_))))))))
       have e6:=ga.ge ab
       have ed:=ga.ge aa
       have e9:=ga.ge al
       have ab:=ab.trans (ga.g)
       have aa:=aa.trans (ga.g)
       have al:=al.trans (ga.g)
       refine AS fun _ ga _ g E=>?_
       first|replace ab:=CO ab ga O|clear ab|skip
       first|replace aa:=CO aa ga O|clear aa|skip
       first|replace al:=CO al ga O|clear al|skip
       refine Al (kq (Ao (Ay (AF FK U (AL Cd U (E.E.j U) (FM U U (As U (AD U U U (fun _=>AE AW (H U)) (BU U U U (AU Bj (Am U id) (fun _=>E.E.j U)) (AD U U U (fun _=>LP AB (Am U id)) (AD U U U (fun _=>KP (Am U id) Bl) (AD U U U (fun _=>A9 (Am U id)) (AD U U U (fun _=>AE AW (H U)) (BU U U U (AU Bj (Am U id) (fun _=>E.E.j U)) (AD U U U (fun _=>CS AB (Am U id) Bl (fun hc=>by have:=hc.2;simp only [Bool.not_eq_false',BQ] at this;omega) (fun hc=>(Ba b8 (i:=1) (by have:=hc.2;simp only [Bool.not_eq_false',BQ] at this;omega)).1)) (AD U U U (fun _=>AE FK (Am U id)) (?_)))))))))))))))))
       refine BU U U U (AU Cd (Am U id) (fun hc=>by
 obtain ⟨_,p',c',b3,_⟩:=Ba b8 (i:=1) (by have:=hc.2;simp only [Bool.not_eq_false',BQ] at this;omega)
 exact (b3.a g) 0 _ rfl)) (AD rfl rfl rfl (fun _=>KP (Am rfl id) Bl) (AD rfl rfl rfl (fun _=>Gv (Am rfl id) (Am rfl id)) (AG rfl (fun _=>ES (H rfl) (Am rfl id)) (Al (kq (CB rfl (fun h3=>?_) (fun h3=>?_)))))))
       · have h3:(KO (V t i))=true:=h3
         have eo:t.b.any KO=true:=List.any_eq_true.2 ⟨_,AN h2,by rw [← D6 h2];exact h3⟩
         refine Cw ?_
         unfold Ex;rw [h1,eo];rfl
       have h3:(KO (V t i))=false:=h3
       refine R ?_
       refine BL [18,1,16,17] ?_
       refine Al (fun a ha=>?_)
       refine ⟨i+1,ha,⟨⟨h2,fun j h hj=>?_⟩,al⟩,O⟩
       by_cases e:j=i
       · subst e;rw [← D6 h2];exact h3
       · exact eb.2 j h O
     have h2:i=t.b.length:=by simp only [CK] at h2;omega
     have cu:t.b.any KO=false:=by
       rw [List.any_eq_false];intro x hx
       obtain ⟨j,hj,rfl⟩:=Dv hx
       rw [eb.2 j hj O];simp
     refine R ?_
     refine C9 [0,1,1,1,3] ?_
     have g:=Ho g
     have ab:=ab.trans (G.drew _)
     have aa:=aa.trans (G.drew _)
     have al:=al.trans (G.drew _)
     replace E:=E.dr
     refine Ch fun _ _ ga _ g E=>?_
     have ep:=ga.ge ab
     have dk:=ga.ge aa
     have e2:=ga.ge al
     refine AK (L6 [2,6,4] _ _ _ _ E.E.row Cb) ?_
     rintro jm fc ⟨b5,d2⟩
     have ey:=b5
     obtain ⟨je,i0,gv,rfl,f1,gk⟩:=ey
     refine ER d2 fun g=>?_
     replace E:=E.a d2
     have d5:=G.refl fc
     refine DA (QY t _ _ D (CX [2,6,4]) _ _ (hk.a g) (b5.a d5) hc) (Do fun jg i3 g E=>?_)
     refine Cw ?_
     unfold Ex;rw [h1,cu];rfl
   refine R ?_
   refine' AZ [1,2,3,4,12] (fun jd=>?y4) (kq ?n4)
   case y4 =>
    refine R ?_
    refine BL [44,1,2,3,4,12] ?_
    exact Al AX
   case n4 =>
    refine Az (fun h5=>?_) fun h5=>?_
    · (try simp only [BJ] at h5)
      refine R ?_
      refine DA (QY t _ _ D (CX [3]) _ _ (hk.a g) (cg.a aa) hc) (Do fun jl jk g E=>?_)
      refine Cw ?_
      unfold Ex;simp only [Ct,h1,h5,A8,A0] <;> rfl
    refine Az (fun h6=>?_) fun h6=>?_
    · (try simp only [BJ] at h6)
      refine Ch fun _ _ ga _ g E=>?_
      have ew:=ga.ge ab
      have dm:=ga.ge aa
      refine DA (Lg t _ _ D [Il] _ _ _ _ _ (hk.a g) U E.E.row (fun i h=>by match i,h with|0,_=>exact Kx RI RK _) hc) (Do fun jb jf g E=>?_)
      refine Cw ?_
      unfold Ex;simp only [Ct,h1,h5,h6,A8,A0] <;> rfl
    refine Az (fun h7=>?_) fun h7=>?_
    · (try simp only [BJ] at h7)
      refine R ?_
      refine DE (Ef none) [0,1,1,1,1,3,1,1,3] [0,0,2,0,14,0,62,127,255] CI Ai [0,1,2,3,4,5,6,7,8] U ?_
      have g:=Ho g
      have ab:=ab.trans (G.drew _)
      have aa:=aa.trans (G.drew _)
      replace E:=E.dr
      refine Bg 0 U U (fun w1 hx=>A2 A3 (H U) U (fun _=>(E.g2.A hx DC).row)) (Au 5 U U (fun _=>A9 (H U)) (KM 1 3 U U ?_ ?_))
      · refine Br (L':=[2,3,4,6,7,8]) [0,1,1,1,1,3,1,1,3] rfl rfl rfl ?_
        refine Ch fun _ _ au i8 g E=>?_
        have bu:=au.ge ab
        have bj:=au.ge aa
        have ab:=ab.trans (au.g)
        have aa:=aa.trans (au.g)
        refine Bs ((au.g).I _) ?_
        refine KM 2 3 U U ?_ ?_
        · refine Br (L':=[3,4,6,7,8]) [0,1,1,1,1,3,1,1,3] rfl rfl rfl ?_
          refine AK (L6 [5] _ _ _ _ E.E.row Cb) ?_
          rintro ec bn ⟨ao,ah⟩
          have a7:=ao
          obtain ⟨d9,cn,b7,rfl,bq,ci⟩:=a7
          refine ER ah fun g=>?_
          have ab:=ab.trans (ah)
          have aa:=aa.trans (ah)
          replace E:=E.a ah
          have ac:=G.refl bn
          refine Bs ((ah).I _) ?_
          refine AQ 3 U U ?_
          refine Br (L':=[4,6,7,8]) [0,1,1,1,1,3,1,1,3] U U U ?_
          refine Ch fun _ _ ag ff g E=>?_
          have a5:=ag.ge ab
          have az:=ag.ge aa
          have dz:=ag.ge ac
          have ab:=ab.trans (ag.g)
          have aa:=aa.trans (ag.g)
          have ac:=ac.trans (ag.g)
          refine Bs ((ag.g).I _) ?_
          refine AQ 4 U U ?_
          refine Br (L':=[6,7,8]) [0,1,1,1,1,3,1,1,3] U U U ?_
          refine AK (Rj Il [9] _ _ _ _ _ (Kx RI RK _) E.E.row Cb) ?_
          rintro d7 bp ⟨ap,af⟩
          have a9:=ap
          obtain ⟨eu,ce,cd,rfl,bv,ch⟩:=a9
          refine ER af fun g=>?_
          have ab:=ab.trans (af)
          have aa:=aa.trans (af)
          have ac:=ac.trans (af)
          replace E:=E.a af
          have ae:=G.refl bp
          refine Bs ((af).I _) ?_
          refine AQ 6 U U ?_
          refine Br (L':=[7,8]) [0,1,1,1,1,3,1,1,3] U U U ?_
          refine Ch fun _ _ ad fd g E=>?_
          have a8:=ad.ge ab
          have aw:=ad.ge aa
          have ax:=ad.ge ac
          have ay:=ad.ge ae
          have ab:=ab.trans (ad.g)
          have ac:=ac.trans (ad.g)
          have ae:=ae.trans (ad.g)
          refine Bs ((ad.g).I _) ?_
          refine AQ 7 U U ?_
          refine Br (L':=[8]) [0,1,1,1,1,3,1,1,3] U U U ?_
          refine DA (Lg t _ _ D [CX [5],fun k=>Il k || CX [9] k,CX [10]] _ _ _ _ _ (hk.a g) U E.E.row (fun i h=>by match i,h with|0,_=>exact ao.a ac|1,_=>exact ap.a ae|2,_=>exact bc.a ab) hc) (Do fun ej bw g E=>?_)
          refine Bs ((bw).I _) ?_
          refine Au 8 U U (fun _=>Eu (H U)) (Dp [2] (FF (kq (DZ (FJ U U ?_)))))
          refine ⟨Ib ?_,g⟩
          unfold Ex;simp only [Ct,h1,h5,h6,h7,A8,A0] <;> rfl
        · refine Br (L':=[2,4,6,7,8]) [0,1,1,1,1,3,1,1,3] rfl rfl rfl ?_
          refine Ch fun _ _ ag ff g E=>?_
          have a5:=ag.ge ab
          have az:=ag.ge aa
          have ab:=ab.trans (ag.g)
          have aa:=aa.trans (ag.g)
          refine Bs ((ag.g).I _) ?_
          refine AQ 2 U U ?_
          refine Br (L':=[4,6,7,8]) [0,1,1,1,1,3,1,1,3] U U U ?_
          refine AK (L6 [5] _ _ _ _ E.Q.row Cb) ?_
          rintro ec bn ⟨ao,ah⟩
          have a7:=ao
          obtain ⟨d9,cn,b7,rfl,bq,ci⟩:=a7
          refine ER ah fun g=>?_
          have ab:=ab.trans (ah)
          have aa:=aa.trans (ah)
          replace E:=E.a ah
          have ac:=G.refl bn
          refine Bs ((ah).I _) ?_
          refine AQ 4 U U ?_
          refine Br (L':=[6,7,8]) [0,1,1,1,1,3,1,1,3] U U U ?_
          refine AK (Rj Il [9] _ _ _ _ _ (Kx RI RK _) E.E.row Cb) ?_
          rintro d7 bp ⟨ap,af⟩
          have a9:=ap
          obtain ⟨eu,ce,cd,rfl,bv,ch⟩:=a9
          refine ER af fun g=>?_
          have ab:=ab.trans (af)
          have aa:=aa.trans (af)
          have ac:=ac.trans (af)
          replace E:=E.a af
          have ae:=G.refl bp
          refine Bs ((af).I _) ?_
          refine AQ 6 U U ?_
          refine Br (L':=[7,8]) [0,1,1,1,1,3,1,1,3] U U U ?_
          refine Ch fun _ _ ad fd g E=>?_
          have a8:=ad.ge ab
          have aw:=ad.ge aa
          have ax:=ad.ge ac
          have ay:=ad.ge ae
          have ab:=ab.trans (ad.g)
          have ac:=ac.trans (ad.g)
          have ae:=ae.trans (ad.g)
          refine Bs ((ad.g).I _) ?_
          refine AQ 7 U U ?_
          refine Br (L':=[8]) [0,1,1,1,1,3,1,1,3] U U U ?_
          refine DA (Lg t _ _ D [CX [5],fun k=>Il k || CX [9] k,CX [10]] _ _ _ _ _ (hk.a g) U E.E.row (fun i h=>by match i,h with|0,_=>exact ao.a ac|1,_=>exact ap.a ae|2,_=>exact bc.a ab) hc) (Do fun ej bw g E=>?_)
          refine Bs ((bw).I _) ?_
          refine Au 8 U U (fun _=>Eu (H U)) (Dp [2] (FF (kq (DZ (FJ U U ?_)))))
          refine ⟨Ib ?_,g⟩
          unfold Ex;simp only [Ct,h1,h5,h6,h7,A8,A0] <;> rfl
      · refine Br (L':=[1,2,4,6,7,8]) [0,1,1,1,1,3,1,1,3] rfl rfl rfl ?_
        refine Ch fun _ _ ag _ g E=>?_
        have a5:=ag.ge ab
        have az:=ag.ge aa
        have ab:=ab.trans (ag.g)
        have aa:=aa.trans (ag.g)
        refine Bs ((ag.g).I _) ?_
        refine AQ 1 U U ?_
        refine Br (L':=[2,4,6,7,8]) [0,1,1,1,1,3,1,1,3] U U U ?_
        refine Ch fun _ _ au _ g E=>?_
        have bu:=au.ge ab
        have bj:=au.ge aa
        have ab:=ab.trans (au.g)
        have aa:=aa.trans (au.g)
        refine Bs ((au.g).I _) ?_
        refine AQ 2 U U ?_
        refine Br (L':=[4,6,7,8]) [0,1,1,1,1,3,1,1,3] U U U ?_
        refine AK (L6 [5] _ _ _ _ E.E.row Cb) ?_
        rintro ec bn ⟨ao,ah⟩
        have a7:=ao
        obtain ⟨d9,cn,b7,rfl,bq,ci⟩:=a7
        refine ER ah fun g=>?_
        have ab:=ab.trans (ah)
        have aa:=aa.trans (ah)
        replace E:=E.a ah
        have ac:=G.refl bn
        refine Bs ((ah).I _) ?_
        refine AQ 4 U U ?_
        refine Br (L':=[6,7,8]) [0,1,1,1,1,3,1,1,3] U U U ?_
        refine AK (Rj Il [9] _ _ _ _ _ (Kx RI RK _) E.Q.row Cb) ?_
        rintro d7 bp ⟨ap,af⟩
        have a9:=ap
        obtain ⟨eu,ce,cd,rfl,bv,ch⟩:=a9
        refine ER af fun g=>?_
        have ab:=ab.trans (af)
        have aa:=aa.trans (af)
        have ac:=ac.trans (af)
        replace E:=E.a af
        have ae:=G.refl bp
        refine Bs ((af).I _) ?_
        refine AQ 6 U U ?_
        refine Br (L':=[7,8]) [0,1,1,1,1,3,1,1,3] U U U ?_
        refine Ch fun _ _ ad _ g E=>?_
        have a8:=ad.ge ab
        have aw:=ad.ge aa
        have ax:=ad.ge ac
        have ay:=ad.ge ae
        have ab:=ab.trans (ad.g)
        have ac:=ac.trans (ad.g)
        have ae:=ae.trans (ad.g)
        refine Bs ((ad.g).I _) ?_
        refine AQ 7 U U ?_
        refine Br (L':=[8]) [0,1,1,1,1,3,1,1,3] U U U ?_
        refine DA (Lg t _ _ D [CX [5],fun k=>Il k || CX [9] k,CX [10]] _ _ _ _ _ (hk.a g) U E.E.row (fun i h=>by match i,h with|0,_=>exact ao.a ac|1,_=>exact ap.a ae|2,_=>exact bc.a ab) hc) (Do fun ej bw g E=>?_)
        refine Bs ((bw).I _) ?_
        refine Au 8 U U (fun _=>Eu (H U)) (Dp [2] (FF (kq (DZ (FJ U U ?_)))))
        refine ⟨Ib ?_,g⟩
        unfold Ex;simp only [Ct,h1,h5,h6,h7,A8,A0] <;> rfl
    refine Az (fun h8=>?_) fun h8=>?_
    · (try simp only [BJ] at h8)
      refine R ?_
      refine C9 [0,1,1,1,1,3] ?_
      have g:=Ho g
      have ab:=ab.trans (G.drew _)
      have aa:=aa.trans (G.drew _)
      replace E:=E.dr
      refine Ch fun _ _ ga _ g E=>?_
      have d6:=ga.ge ab
      have di:=ga.ge aa
      have ab:=ab.trans (ga.g)
      have aa:=aa.trans (ga.g)
      refine AK (Rj FA [9] _ _ _ _ _ (Kx NL Oy _) E.E.row Cb) ?_
      rintro jo f4 ⟨cf,b1⟩
      have d8:=cf
      obtain ⟨i6,f7,hr,rfl,fs,ie⟩:=d8
      refine ER b1 fun g=>?_
      have ab:=ab.trans (b1)
      have aa:=aa.trans (b1)
      replace E:=E.a b1
      have bf:=G.refl f4
      refine Ch fun _ _ ga _ g E=>?_
      have ez:=ga.ge ab
      have dh:=ga.ge aa
      have dq:=ga.ge bf
      have bf:=bf.trans (ga.g)
      refine DA (Lg t _ _ D [Il,fun k=>FA k || CX [9] k] _ _ _ _ _ (hk.a g) U E.E.row (fun i h=>by match i,h with|0,_=>exact Kx RI RK _|1,_=>exact cf.a bf) hc) (Do fun i7 i9 g E=>?_)
      refine Cw ?_
      unfold Ex;simp only [Ct,h1,h5,h6,h7,h8,A8,A0] <;> rfl
    refine Az (fun h9=>?_) fun h9=>?_
    · (try simp only [BJ] at h9)
      refine R ?_
      refine DA (QY t _ _ D MD _ _ (hk.a g) (Kx lX vP _) hc) (Do fun jp ji g E=>?_)
      refine Cw ?_
      unfold Ex;simp only [Ct,h1,h5,h6,h7,h8,h9,A8,A0] <;> rfl
    refine R ?_
    refine' AZ [1,2,3,12] (fun i1=>?y10) (kq ?n10)
    case y10 =>
     refine R ?_
     refine' AZ [1,2,3,12] (fun gn=>?y11) AX
     case y11 =>
      refine R ?_
      refine' AZ [1,2,3,12] (fun iw=>?y12) AX
      case y12 =>
       refine R ?_
       refine' AZ [1,2,3,12] (fun ho=>?y13) AX
       case y13 =>
        refine R ?_
        refine' AZ [1,2,3,12] (fun hu=>?y14) AX
        case y14 =>
         refine R ?_
         refine' AZ [1,2,3,12] (fun iz=>?y15) AX
         case y15 =>
          refine R ?_
          refine' AZ [1,2,3,12] (fun iq=>?y16) AX
          case y16 =>
           refine R ?_
           refine' AZ [1,2,3,12] (fun gy=>?y17) AX
           case y17 =>
            refine R ?_
            refine BL [76,1,2,3,12] ?_
            exact Al AX
    case n10 =>
     refine Az (fun ai=>?_) fun ai=>?_
     · (try simp only [BJ] at ai)
       refine Ch fun _ _ ga _ g E=>?_
       have d4:=ga.ge ab
       have dt:=ga.ge aa
       refine DA (Lg t _ _ D [FA] _ _ _ _ _ (hk.a g) U E.E.row (fun i h=>by match i,h with|0,_=>exact Kx NL Oy _) hc) (Do fun i5 jh g E=>?_)
       refine Cw ?_
       unfold Ex;simp only [Ct,h1,h5,h6,h7,h8,h9,ai,A8,A0] <;> rfl
     refine R ?_
     refine' AZ [1,2,3,12] (fun gc=>?y19) (kq ?n19)
     case y19 =>
      refine R ?_
      refine' AZ [1,2,3,12] (fun iv=>?y20) AX
      case y20 =>
       refine R ?_
       refine' AZ [1,2,3,12] (fun io=>?y21) AX
       case y21 =>
        refine R ?_
        refine BL [89,1,2,3,12] ?_
        exact Al AX
     case n19 =>
      refine Az (fun aj=>?_) fun aj=>?_
      · (try simp only [BJ] at aj)
        refine Ch fun _ _ ga _ g E=>?_
        have el:=ga.ge ab
        have dl:=ga.ge aa
        refine DA (Lg t _ _ D [FA,FA] _ _ _ _ _ (hk.a g) U E.E.row (fun i h=>by match i,h with|0,_=>exact Kx NL Oy _|1,_=>exact Kx NL Oy _) hc) (Do fun ja jc g E=>?_)
        refine Cw ?_
        unfold Ex;simp only [Ct,h1,h5,h6,h7,h8,h9,ai,aj,A8,A0] <;> rfl
      refine Az (fun ak=>?_) fun ak=>?_
      · (try simp only [BJ] at ak)
        refine R ?_
        refine C9 [0,1,1,1,1,3] ?_
        have g:=Ho g
        have ab:=ab.trans (G.drew _)
        have aa:=aa.trans (G.drew _)
        replace E:=E.dr
        refine Ch fun _ _ ga _ g E=>?_
        have du:=ga.ge ab
        have cz:=ga.ge aa
        have ab:=ab.trans (ga.g)
        have aa:=aa.trans (ga.g)
        refine AK (L6 [30,33] _ _ _ _ E.E.row Cb) ?_
        rintro ip d1 ⟨b0,be⟩
        have c6:=b0
        obtain ⟨gd,fh,fy,rfl,e8,f2⟩:=c6
        refine ER be fun g=>?_
        have ab:=ab.trans (be)
        have aa:=aa.trans (be)
        replace E:=E.a be
        have a2:=G.refl d1
        refine Ch fun _ _ ga _ g E=>?_
        have dx:=ga.ge ab
        have cr:=ga.ge aa
        have b4:=ga.ge a2
        have a2:=a2.trans (ga.g)
        refine DA (Lg t _ _ D [CX [30,33]] _ _ _ _ _ (hk.a g) U E.E.row (fun i h=>by match i,h with|0,_=>exact b0.a a2) hc) (Do fun ik gq g E=>?_)
        refine Cw ?_
        unfold Ex;simp only [Ct,h1,h5,h6,h7,h8,h9,ai,aj,ak,A8,A0] <;> rfl
      refine R ?_
      refine' AZ [1,2,3,12] (fun h4=>?y24) (kq ?n24)
      case y24 =>
       refine R ?_
       refine BL [104,1,2,3,12] ?_
       exact Al AX
      case n24 =>
       refine Az (fun am=>?_) fun am=>?_
       · (try simp only [BJ] at am)
         refine R ?_
         refine C9 [0,1,1,1,1,3] ?_
         have g:=Ho g
         have ab:=ab.trans (G.drew _)
         have aa:=aa.trans (G.drew _)
         replace E:=E.dr
         refine Ch fun _ _ ga _ g E=>?_
         have dj:=ga.ge ab
         have c8:=ga.ge aa
         have ab:=ab.trans (ga.g)
         have aa:=aa.trans (ga.g)
         refine AK (L6 [30] _ _ _ _ E.E.row Cb) ?_
         rintro hv et ⟨bs,bh⟩
         have c3:=bs
         obtain ⟨go,f0,ft,rfl,e5,fx⟩:=c3
         refine ER bh fun g=>?_
         have ab:=ab.trans (bh)
         have aa:=aa.trans (bh)
         replace E:=E.a bh
         have a1:=G.refl et
         refine Ch fun _ _ ga _ g E=>?_
         have dn:=ga.ge ab
         have de:=ga.ge aa
         have cb:=ga.ge a1
         have a1:=a1.trans (ga.g)
         refine DA (Lg t _ _ D [CX [30]] _ _ _ _ _ (hk.a g) U E.E.row (fun i h=>by match i,h with|0,_=>exact bs.a a1) hc) (Do fun gj ix g E=>?_)
         refine Cw ?_
         unfold Ex;simp only [Ct,h1,h5,h6,h7,h8,h9,ai,aj,ak,am,A8,A0] <;> rfl
       refine Az (fun an=>?_) fun an=>?_
       · (try simp only [BJ] at an)
         refine R ?_
         refine C9 [0,3,1,1,1,1,3] ?_
         have g:=Ho g
         have ab:=ab.trans (G.drew _)
         have aa:=aa.trans (G.drew _)
         replace E:=E.dr
         refine Ch fun _ _ ga _ g E=>?_
         have dp:=ga.ge ab
         have da:=ga.ge aa
         have ab:=ab.trans (ga.g)
         have aa:=aa.trans (ga.g)
         refine AK (L6 [10,18,9] _ _ _ _ E.E.row Cb) ?_
         rintro iy e3 ⟨bz,bi⟩
         have dc:=bz
         obtain ⟨gf,fg,fu,rfl,fa,fj⟩:=dc
         refine ER bi fun g=>?_
         have ab:=ab.trans (bi)
         have aa:=aa.trans (bi)
         replace E:=E.a bi
         have a4:=G.refl e3
         refine Ch fun _ _ ga _ g E=>?_
         have dg:=ga.ge ab
         have c4:=ga.ge aa
         have b6:=ga.ge a4
         have ab:=ab.trans (ga.g)
         have a4:=a4.trans (ga.g)
         refine DA (Lg t _ _ D [FA,CX [10],CX [10,18,9]] _ _ _ _ _ (hk.a g) U E.E.row (fun i h=>by match i,h with|0,_=>exact Kx NL Oy _|1,_=>exact bc.a ab|2,_=>exact bz.a a4) hc) (Do fun gh ib g E=>?_)
         refine Cw ?_
         unfold Ex;simp only [Ct,h1,h5,h6,h7,h8,h9,ai,aj,ak,am,an,A8,A0] <;> rfl
       refine Az (fun aq=>?_) fun aq=>?_
       · (try simp only [BJ] at aq)
         refine R ?_
         refine IH [0,1,1,3,1,1,3] [true,true,true,false,true,true,true] [0,0,2,0,14,31,63] CI Ai ?_
         have g:=Ho g
         have ab:=ab.trans (G.drew _)
         have aa:=aa.trans (G.drew _)
         replace E:=E.dr
         refine Ch fun _ _ ga _ g E=>?_
         have dv:=ga.ge ab
         have cy:=ga.ge aa
         have ab:=ab.trans (ga.g)
         have aa:=aa.trans (ga.g)
         refine AK (Rj FA [9] _ _ _ _ _ (Kx NL Oy _) E.E.row Cb) ?_
         rintro it ek ⟨bt,bg⟩
         have db:=bt
         obtain ⟨gw,fp,fe,rfl,e4,fq⟩:=db
         refine ER bg fun g=>?_
         have ab:=ab.trans (bg)
         have aa:=aa.trans (bg)
         replace E:=E.a bg
         have a3:=G.refl ek
         refine Ch fun _ _ ga _ g E=>?_
         have dy:=ga.ge ab
         have dd:=ga.ge aa
         have cj:=ga.ge a3
         have ab:=ab.trans (ga.g)
         have a3:=a3.trans (ga.g)
         refine DA (Lg t _ _ D [fun k=>FA k || CX [9] k,CX [10]] _ _ _ _ _ (hk.a g) U E.E.row (fun i h=>by match i,h with|0,_=>exact bt.a a3|1,_=>exact bc.a ab) hc) (Do fun ih ir g E=>?_)
         refine Cw ?_
         unfold Ex;simp only [Ct,h1,h5,h6,h7,h8,h9,ai,aj,ak,am,an,aq,A8,A0] <;> rfl
       refine Az (fun ar=>?_) fun ar=>?_
       · (try simp only [BJ] at ar)
         refine R ?_
         refine S6 [_] U U U Ts XL (JG Cf (Ia)) U U ?_
         intro iu i2 b9 c5
         have g:=g.trans b9
         replace E:=E.a b9
         refine F4 (fun hc=>Lg t _ _ D [FA] _ _ _ _ _ (hk.a g) U (c5 hc).row (fun i h=>by match i,h with|0,_=>exact Kx NL Oy _) e0) (Do fun gz ii g E=>?_)
         refine Cw ?_
         unfold Ex;simp only [Ct,h1,h5,h6,h7,h8,h9,ai,aj,ak,am,an,aq,ar,A8,A0] <;> rfl
       refine Az (fun av=>?_) fun av=>?_
       · (try simp only [BJ] at av)
         refine R ?_
         refine C9 [0,1,1,1,3] ?_
         have g:=Ho g
         have ab:=ab.trans (G.drew _)
         have aa:=aa.trans (G.drew _)
         replace E:=E.dr
         refine Ch fun _ _ ga _ g E=>?_
         have df:=ga.ge ab
         have c9:=ga.ge aa
         refine AK (L6 [23] _ _ _ _ E.E.row Cb) ?_
         rintro gl em ⟨bo,ck⟩
         have ct:=bo
         obtain ⟨il,f3,fk,rfl,e7,fz⟩:=ct
         refine ER ck fun g=>?_
         replace E:=E.a ck
         have cq:=G.refl em
         refine DA (QY t _ _ D (CX [23]) _ _ (hk.a g) (bo.a cq) hc) (Do fun hw hl g E=>?_)
         refine Cw ?_
         unfold Ex;simp only [Ct,h1,h5,h6,h7,h8,h9,ai,aj,ak,am,an,aq,ar,av,A8,A0] <;> rfl
       refine Ao (Ay (FM U U (BO U (Al (kq (CB U (fun a0=>?_) (fun a0=>?_)))))))
       · (try simp only [BJ] at a0)
         refine Ao (Ay (?_))
         obtain ⟨p0,c0,c7⟩:=SU hk 0
         obtain ⟨p1,c1,eh⟩:=SU hk 1
         refine AF AW U (AL Bj U (E.g2.j U) (ED AB U (FM U U (As U (AD U U U (fun _=>AE AW (H U)) (BU U U U (AU Bj (Am U id) (fun _=>E.g2.j U)) (AD U U U (fun _=>CS AB (Am U id) Bl (fun hc=>by have:=AV hc.2;omega) (fun hc=>(c7 (by have:=AV hc.2;omega)).1)) (BU U U U (A2 A3 (Am U id) U (fun hc=>(c7 (by have:=AV hc.2;omega)).2.1.a g)) (E9 U U U (fun _=>(BK nI Cf (Cu (Am U id) (CY)) U)) (fun hc=>gG (V t 0) _ _ D _ ((c7 (by have:=AV hc.2;omega)).2.2.a g) (d0 0)) (fun gr bm=>?_))))))))))
         have g:=g.trans bm
         have ab:=ab.trans (bm)
         replace E:=E.a bm
         refine AG U (fun _=>ES (H U) (Am U id)) (As U (AD U U U (fun _=>A9 (H U)) (AD U U U (fun _=>AE AW (H U)) (BU U U U (AU Bj (Am U id) (fun _=>E.g2.j U)) (AD U U U (fun _=>CS AB (Am U id) Bl (fun hc=>by have:=AV (DF.1 hc.2).1;omega) (fun hc=>(eh (by have:=AV (DF.1 hc.2).1;omega)).1)) (AD U U U (fun _=>AE FK (Am U id)) (BU U U U (AU Cd (Am U id) (fun hc=>((eh (by have:=AV (DF.1 hc.2).1;omega)).2.1.a g) 0 _ U)) (E9 U U U (fun _=>(BK ei (Am U id) (Cu (Am U id) (CY)) U)) (fun hc=>fw _ _ ab) (fun gs cp=>?_)))))))))
         have g:=g.trans cp
         replace E:=E.a cp
         refine Cw ?_
         unfold Ex;simp only [Ct,h1,h5,h6,h7,h8,h9,ai,aj,ak,am,an,aq,ar,av,a0,A8,A0] <;> rfl
       refine Az (fun a6=>?_) fun a6=>?_
       · (try simp only [BJ] at a6)
         refine R ?_
         refine E9 U U U (fun _=>(BK qZ Cf (Cu (Am U id) (Cu Bl (Cu Cf (CY)))) U)) (fun hc=>QY t _ _ D FA _ _ (hk.a g) (Kx NL Oy _) e0) (Do fun f5 hy g E=>?_)
         refine Cw ?_
         unfold Ex;simp only [Ct,h1,h5,h6,h7,h8,h9,ai,aj,ak,am,an,aq,ar,av,a0,a6,A8,A0] <;> rfl
       refine Az (fun ba=>?_) fun ba=>?_
       · (try simp only [BJ] at ba)
         refine Cw ?_
         unfold Ex;simp only [Ct,h1,h5,h6,h7,h8,h9,ai,aj,ak,am,an,aq,ar,av,a0,a6,ba,A8,A0] <;> rfl
       refine Az (fun bk=>?_) fun bk=>?_
       · (try simp only [BJ] at bk)
         refine Cw ?_
         unfold Ex;simp only [Ct,h1,h5,h6,h7,h8,h9,ai,aj,ak,am,an,aq,ar,av,a0,a6,ba,bk,A8,A0] <;> rfl
       refine R ?_
       refine' AZ [1,2,3,12] (fun gu=>?y34) (kq ?n34)
       case y34 =>
        refine R ?_
        refine' AZ [1,2,3,12] (fun im=>?y35) AX
        case y35 =>
         refine R ?_
         refine' AZ [1,2,3,12] (fun f9=>?y36) AX
         case y36 =>
          refine R ?_
          refine' AZ [1,2,3,12] (fun ic=>?y37) AX
          case y37 =>
           refine R ?_
           refine' AZ [1,2,3,12] (fun f6=>?y38) AX
           case y38 =>
            refine R ?_
            refine BL [204,1,2,3,12] ?_
            exact Al AX
       case n34 =>
        refine Az (fun br=>?_) fun br=>?_
        · (try simp only [BJ] at br)
          refine Cw ?_
          unfold Ex;simp only [Ct,h1,h5,h6,h7,h8,h9,ai,aj,ak,am,an,aq,ar,av,a0,a6,ba,bk,br,A8,A0] <;> rfl
        refine Az (fun b2=>?_) fun b2=>?_
        · (try simp only [BJ] at b2)
          refine Ch fun _ _ ga _ g E=>?_
          have dw:=ga.ge ab
          have cw:=ga.ge aa
          have ab:=ab.trans (ga.g)
          refine DA (Lg t _ _ D [CX [10]] _ _ _ _ _ (hk.a g) U E.E.row (fun i h=>by match i,h with|0,_=>exact bc.a ab) hc) (Do fun ia gg g E=>?_)
          refine Cw ?_
          unfold Ex;simp only [Ct,h1,h5,h6,h7,h8,h9,ai,aj,ak,am,an,aq,ar,av,a0,a6,ba,bk,br,b2,A8,A0] <;> rfl
        refine Cw ?_
        unfold Ex;simp only [Ct,h1,h5,h6,h7,h8,h9,ai,aj,ak,am,an,aq,ar,av,a0,a6,ba,bk,br,b2,A8,A0] <;> rfl
def IZ(t:Nd):Bool:=Hw t&&Ex t
def CD(t:Nd):Bool:=Iq (fun t l=>IZ t&&l.all id) t
theorem Je(t:Nd):CD t=(IZ t&&t.b.all CD):=by
 rw [CD,Lh,List.all_map];rfl
def L8(l:List Nat):Nat:=l.foldl max 0
def HH(t:Nd):Nat:=Iq (fun _ l=>L8 l+1) t
theorem Uc(t:Nd):HH t=L8 (t.b.map HH)+1:=Lh _ t
theorem mN(l:List Nat)(a d:Nat):l.foldl max a≤d↔a≤d∧∀ x∈l,x≤d:=by
 induction l generalizing a with
 | nil=>simp
 | cons x xs ih=>simp only [List.foldl_cons,ih,List.forall_mem_cons,Nat.max_le,and_assoc]
theorem TU(l:List Nat)(d:Nat):L8 l≤d↔∀ x∈l,x≤d:=by
 rw [L8,mN];exact ⟨fun h=>h.2,fun h=>⟨Bh _,h⟩⟩
theorem dW(t:Nd)(d:Nat):HH t≤d↔0<d∧∀ k∈t.b,HH k≤d-1:=by
 rw [Uc];constructor;intro h;refine ⟨O,fun k hk=>?_⟩;have:=(TU (t.b.map HH) (d-1)).1 O;exact this _ (List.mem_map_of_mem hk);rintro ⟨h0,h⟩;have:=(TU (t.b.map HH) (d-1)).2 (fun x hx=>by obtain ⟨k,hk,rfl⟩:=List.mem_map.1 hx;exact h k hk);omega
theorem uN(t:Nd):1≤HH t:=by rw [Uc];omega
theorem yY:∀ t,HH t≤count t:=by
 refine Nd.ao fun t ih=>?_;rw [dW];exact ⟨JJ t,fun k hk=>by have:=ih k hk;have:=Mt hk;omega⟩
def LC(d:Nat)(t:Nd):Bool:=CD t&&Ae (HH t≤d)
theorem tG(t:Nd):LC 0 t=false:=by
 have:=uN t;rw [LC,Aq O,Bool.and_false]
theorem eJ{d:Nat}(h:0<d)(t:Nd):LC d t=((Hw t&&Ex t)&&t.b.all (LC (d-1))):=by
 rw [FS,LC,Je,IZ];simp only [Cr,BQ,dW t d,BM,LC];constructor;rintro ⟨⟨h1,h2⟩,_,h3⟩;exact ⟨h1,fun k hk=>⟨h2 k hk,h3 k hk⟩⟩;rintro ⟨h1,h2⟩;exact ⟨⟨h1,fun k hk=>(h2 k hk).1⟩,h,fun k hk=>(h2 k hk).2⟩
theorem Y1{t:Nd}{n:Nat}(h:count t≤n)(i:Nat):(V t i).b.length≤n:=by
 by_cases hi:i<t.b.length;rw [D6 hi];have:=Mt (AN hi);have:=Ej t.b[i];omega;have:V t i=EN:=by simp only [V,Cl];rw [DV O];rfl
 rw [this];exact Bh _
theorem sD:∀ (t:Nd) (v:Ak) (D:Nat→Prop) (d:Nat) (w:Ad),Laid w→10≤w.heap.size→Bo w D t.b v→count t≤1000000→d≤1000000→Bx Aj 65 #[BV t v,.int .i64 (d:Int)] w fun r w'=>r = .bool (LC d t)∧G w w':=by
 refine Nd.ao fun t ih v D d w hL ao hk ak hd=>?_;have ah:=hk;obtain ⟨p,c,rfl,am,aj⟩:=hk;have g:=G.refl w;have al:=Ej t;refine Cj 32 [0,1] Tryz.func65 ?_;refine CN fun _ _ _ _ g E=>?_;refine R ?_;refine F4 (fun hc=>rY t _ _ _ (hL.a g) Dj) (Do fun an g11 g E=>?_);refine R ?_;refine F4 (fun hc=>vY t _ _ D _ (ah.a g) O (fun i=>Y1 ak i)) (Do fun ai ar g E=>?_);refine Az (fun h1=>?_) fun h1=>?_
 have hN:LC d t=false:=by
  rw [Bool.or_eq_true,Bool.or_eq_true,BQ,Bool.not_eq_true',Bool.not_eq_true'] at h1;by_cases h0:d=0;rw [h0];exact tG t;rw [eJ O];rcases h1 with (h1|h1)|h1;omega;rw [h1];rfl;rw [h1,Bool.and_false];rfl
 refine AC ?_;rw [hN];exact ⟨rfl,g⟩
 have af:0<d:=by
  rcases Nat.eq_zero_or_pos d with h0|h0;rw [h0] at h1;exact absurd h1 BI;exact h0
 have ad:(Hw t&&Ex t)=true:=by
  rw [F9,F9,Bool.not_eq_false',Bool.not_eq_false'] at h1;rw [h1.1.2,h1.2];rfl
 have hN:=eJ af t;rw [ad,Fe] at hN;refine CU (kq (Ao (Ao (Ay (AF AW U (AL Bj U (E.E.j U) (ED AB U (As U (Al (kq (DY (GZ (fun (i:Nat) u1=>(i≤t.b.length∧∀ j,(h:j<t.b.length)→j<i→LC (d-1) t.b[j]=true)∧G ai u1) [(1,True,_),(20,True,_),(21,True,_)] (fun (i:Nat)=>[(22,True,.int .i64 i)]) (fun (i:Nat)=>t.b.length-i) (0) ⟨⟨Bh _,fun j _ hj=>absurd hj (CQ j)⟩,G.refl _⟩ (K U (K U (K U (K U (Bm _))))) ?_))))))))))));rintro i u1 ⟨ae,aa⟩;have g:=g.trans aa;replace E:=E.a aa;refine Ao (Ay (G2 U U (Al (kq (Ao (CB U (fun h2=>?_) (fun h2=>?_)))))));have h2:i<t.b.length:=by simp only [BQ] at h2;omega
 obtain ⟨b,o,rfl,hD,xs,hR,hX⟩:=aj O;obtain ⟨p',c',hcell,ac⟩:=I9 hR hX h2;have aq:=J5 h2;refine CU (kq (Ao (DY (Ao (Ay (Hh AB U U O (CH A3 U U (hcell.a g) (A1 fun _ _ ga _ g E=>?_))))))));have ag:=ga.ge aa;have aa:=aa.trans (ga.g);refine AS fun _ ga _ g E=>?_;replace aa:=CO aa ga O;refine Al (kq (Ao (Ay (CH A3 U U E.E.row (As U (AG U (fun _=>jS (r:=((d-1:Nat):Int)) (H U) Bl (fun hc=>(by rw [Vu ⟨O,O⟩];omega))) (F1 U (BK rV Cf (CF U (CF U CT)) U) (ih _ (AN h2) _ _ (d-1) _ (hL.a g) Dj (ac.a g) O O) (fun ap ab=>?_))))))));have g:=g.trans ab;have aa:=aa.trans (ab);replace E:=E.a ab;refine Az (fun h3=>?_) fun h3=>?_;(try simp only [BJ] at h3);refine Cw ?_;rw [eq_comm,hN,CW];exact ⟨_,AN h2,by simpa using h3⟩;refine R ?_;refine BL [22,1,20,21] ?_;refine Al (fun a ha=>?_);refine ⟨i+1,ha,⟨⟨h2,fun j h hj=>?_⟩,aa⟩,O⟩;by_cases e:j=i;subst e;simpa using h3;exact ae.2 j h O;refine Cw ?_;rw [eq_comm,hN,BM];intro x hx;obtain ⟨j,hj,rfl⟩:=Dv hx;exact ae.2 j hj (by simp only [CK] at h2;omega)
def IL(t:Nd):Bool:=Ae (t.c=1)&&LC 50 t
theorem mJ(t:Nd)(v:Ak)(D:Nat→Prop)(w:Ad)(hL:Laid w)(ab:10≤w.heap.size)(hk:Bo w D t.b v)(aa:count t≤1000000):Bx Aj 47 #[BV t v] w fun r w'=>r = .bool (IL t)∧G w w':=by
 have g:=G.refl w;refine Cj 10 [0] Tryz.func47 ?_;refine CN fun _ _ _ _ g E=>?_;refine R ?_;refine F4 (fun hc=>sD t _ D 50 _ (hL.a g) Dj (hk.a g) aa Cb) (Do fun w8 g8 g E=>?_);refine AC ?_;exact ⟨rfl,g⟩
def Cg(t:Nd):Bool:=FA t.c&&CD t
def El(t:Nd):Bool:=Ae (t.c=10)&&CD t
def Eh(t:Nd):Bool:=MD t.c&&CD t
def HV(t:Nd):Bool:=Ae (t.c=18)&&CD t
def MQ(t:Nd):Bool:=Ae (t.c=6)&&CD t
def Mn(t:Nd):Bool:=LX t&&CD t
def DS(t:Nd):Bool:=Ae (t.i=[])
def Hj(t:Nd):Bool:=(Ae (t.c=9)&&Ae (t.i=[]))&&Cp t 0
def Kc(t:Nd)(k:Int):Bool:=Ae (t.c=k)&&Cg t
theorem aR{α:Type}{l:List α}(h:l.length=2):∃ a b,l=[a,b]:=by
 match l,h with|[a,b],_=>exact ⟨a,b,rfl⟩
theorem xX{α:Type}{l:List α}(h:l.length=3):∃ a b c,l=[a,b,c]:=by
 match l,h with|[a,b,c],_=>exact ⟨a,b,c,rfl⟩
theorem Ki(a k:Int):CX [a] k=Ae (k=a):=by simp [CX]
theorem Ok{t:Nd}(n:Nat)(h:t.b.length≠n):Cp t (n:Int)=false:=by rw [Cp,Aq];omega
theorem Tm{t:Nd}{qs:List (Int→Bool)}(h:t.b.length≠qs.length):Fa t qs=false:=by rw [Fa,Aq h,FB]
theorem Y3{t:Nd}{f:Nd→Bool}:(Cp t 0&&t.b.all f)=Cp t 0:=by
 by_cases h:t.b.length=0;rw [Jb.1 h,List.all_nil,Hf];rw [show Cp t 0=false from Ok 0 h];rfl
theorem V8{t:Nd}{q:Int→Bool}:(Fa t [q]&&t.b.all CD)=(Cp t 1&&(q (V t 0).c&&CD (V t 0))):=by
 by_cases h:t.b.length=1;obtain ⟨a,ha⟩:=Jo.1 h;simp [Cp,Fa,V,ha,HJ];rw [show Cp t 1=false from Ok 1 h,Tm h];rfl
theorem Sn{t:Nd}{q q2:Int→Bool}:(Fa t [q,q2]&&t.b.all CD)=(Cp t 2&&((q (V t 0).c&&CD (V t 0))&&(q2 (V t 1).c&&CD (V t 1)))):=by
 by_cases h:t.b.length=2;obtain ⟨a,b,ha⟩:=aR h;simp [Cp,Fa,V,ha,HJ];ac_rfl;rw [show Cp t 2=false from Ok 2 h,Tm h];rfl
theorem Vt{t:Nd}{q q2 q3:Int→Bool}:(Fa t [q,q2,q3]&&t.b.all CD)=(Cp t 3&&(((q (V t 0).c&&CD (V t 0))&&(q2 (V t 1).c&&CD (V t 1)))&&(q3 (V t 2).c&&CD (V t 2)))):=by
 by_cases h:t.b.length=3;obtain ⟨a,b,c,ha⟩:=xX h;simp [Cp,Fa,V,ha,HJ];ac_rfl;rw [show Cp t 3=false from Ok 3 h,Tm h];rfl
theorem iS{t:Nd}{f:Nd→Bool}:(Cp t 1&&t.b.all f)=(Cp t 1&&f (V t 0)):=by
 by_cases h:t.b.length=1;obtain ⟨a,ha⟩:=Jo.1 h;simp [Cp,V,ha];rw [show Cp t 1=false from Ok 1 h];rfl
theorem X4{t:Nd}{f:Nd→Bool}:(Cp t 2&&t.b.all f)=(Cp t 2&&(f (V t 0)&&f (V t 1))):=by
 by_cases h:t.b.length=2;obtain ⟨a,b,ha⟩:=aR h;simp [Cp,V,ha];rw [show Cp t 2=false from Ok 2 h];rfl
theorem QR{t:Nd}{q:Int→Bool}:(Hx t q&&t.b.all CD)=t.b.all fun k=>q k.c&&CD k:=by
 rw [Hx,FS];simp only [Cr,BM];exact ⟨fun h k hk=>⟨h.1 k hk,h.2 k hk⟩,fun h=>⟨fun k hk=>(h k hk).1,fun k hk=>(h k hk).2⟩⟩
theorem Aas{t:Nd}:(Hx t FA&&t.b.all CD)=t.b.all Cg:=QR
def Hz(t:Nd):Bool :=
 bif Ae (t.c=24) then (DS t&&Cp t 0)&&Ae (0≤t.num)
 else bif Ae (t.c=25) then (DS t&&Cp t 0)&&(Ae (t.num=0) || Ae (t.num=1))
 else bif Ae (t.c=26) then DS t&&Cp t 0
 else bif Ct [27,34] t.c then FE t.i&&Cp t 0
 else bif Ae (t.c=28) then (FE t.i&&Cp t 1)&&Cg (V t 0)
 else bif Ae (t.c=29) then (DS t&&Cp t 2)&&t.b.all Cg
 else bif Ae (t.c=30) then (DS t&&Ae (1≤(t.b.length:Int)))&&t.b.all Cg
 else bif Ae (t.c=31) then ((Ae (t.i=[45]) || Ae (t.i=[33]))&&Cp t 1)&&Cg (V t 0)
 else bif Ae (t.c=32) then (Er Lb t.i&&Cp t 2)&&t.b.all Cg
 else bif Ct [33,35,36,37] t.c then (DS t&&Cp t 1)&&Cg (V t 0)
 else bif Ae (t.c=38) then (DS t&&Cp t 1)&&El (V t 0)
 else false
theorem PA{t:Nd}{X:Bool}:(X&&Cp t 0)=((X&&Cp t 0)&&t.b.all CD):=by rw [Ap,Y3]
theorem cK{t:Nd}{X Y:Bool}:((X&&Cp t 0)&&Y)=((X&&(Cp t 0&&Y))&&t.b.all CD):=by
 rw [show ((X&&(Cp t 0&&Y))&&t.b.all CD)=((X&&Y)&&(Cp t 0&&t.b.all CD)) by simp only [Ap,HA,I4],Y3];simp only [Ap,HA,I4]
theorem KF{t:Nd}{X:Bool}{q:Int→Bool}:((X&&Cp t 1)&&(q (V t 0).c&&CD (V t 0)))=((X&&Fa t [q])&&t.b.all CD):=by rw [Ap,Ap,V8]
theorem R9{t:Nd}{X:Bool}:((X&&Cp t 2)&&t.b.all Cg)=((X&&Fa t [FA,FA])&&t.b.all CD):=by rw [Ap,Ap,Sn,X4];rfl
theorem yT{t:Nd}{X Y Z:Bool}(h:Y=Z):((X&&Y)&&t.b.all Cg)=((X&&(Z&&Hx t FA))&&t.b.all CD):=by rw [Ap,Ap,Ap,Aas,h]
theorem Mh(t:Nd):Hz t=Cg t:=by
 rw [Cg,Je,IZ];unfold Hz Hw Ex;by_cases h:t.c=24;rw [h];exact cK;by_cases h1:t.c=25;rw [h1];exact cK;by_cases h2:t.c=26;rw [h2];exact PA;by_cases h3:t.c=27;rw [h3];exact PA;by_cases h4:t.c=34;rw [h4];exact PA;by_cases h5:t.c=28;rw [h5];exact KF;by_cases h6:t.c=29;rw [h6];exact R9;by_cases h7:t.c=30;rw [h7];exact yT (by rw [decide_eq_decide];omega);by_cases h8:t.c=31;rw [h8];exact KF;by_cases h9:t.c=32;rw [h9];exact R9;by_cases h10:t.c=33;rw [h10];exact KF;by_cases h11:t.c=35;rw [h11];exact KF;by_cases h12:t.c=36;rw [h12];exact KF;by_cases h13:t.c=37;rw [h13];exact KF;by_cases h14:t.c=38;rw [h14];refine Eq.trans ?_ (KF (X:=DS t) (q:=CX [10]));rw [Ki];rfl;simp only [FA,Ct,Aq h,Aq h1,Aq h2,Aq h3,Aq h4,Aq h5,Aq h6,Aq h7,Aq h8,Aq h9,Aq h10,Aq h11,Aq h12,Aq h13,Aq h14,Gg,A0,FB]
def Tk(t:Nd):Bool:=bif !Ae (t.c=10) || !DS t then false else t.b.all Eh
def TQ(t:Nd):Bool:=bif (!Ae (t.c=18) || !DS t) || !Cp t 3 then false else (Cg (V t 0)&&El (V t 1))&&((El (V t 2) || HV (V t 2)) || Hj (V t 2))
def TE(t:Nd):Bool:=(((Ae (t.c=6)&&FE t.i)&&Cp t 2)&&G8 (V t 0))&&(Hj (V t 1) || Cg (V t 1))
theorem SS(a b p:Bool):((a&&p) || (b&&p))=((b || a)&&p):=by cases a <;> cases b <;> cases p <;> rfl
theorem xA(a b c p:Bool):(((a&&p) || (b&&p)) || (c&&p))=(((a || b) || c)&&p):=by cases a <;> cases b <;> cases c <;> cases p <;> rfl
theorem TZ(a b c:Bool):(bif !a || !b then false else c)=((a&&b)&&c):=by cases a <;> cases b <;> rfl
theorem uE(a b c d:Bool):(bif (!a || !b) || !c then false else d)=(((a&&b)&&c)&&d):=by cases a <;> cases b <;> cases c <;> rfl
theorem O8(t:Nd):Hj t=(Ae (t.c=9)&&CD t):=by
 rw [Hj];by_cases h:t.c=9;rw [Je,IZ,Hw,Ex,h,Ap];exact congrArg (true && ·) PA;rw [Aq h];rfl
theorem SJ(t:Nd):G8 t=(Il t.c&&CD t):=by
 rw [Je,IZ];unfold G8 Hw Ex;by_cases h:t.c=8;rw [h];exact PA;by_cases h1:t.c=7;rw [h1];exact PA;rw [Aq h,Aq h1,Il,Ct,Ct,Aq h,Aq h1];rfl
theorem Yh(t:Nd):Tk t=El t:=by
 rw [Tk,El,TZ];by_cases h:t.c=10
 rw [Je,IZ,Hw,Ex,h,Ap];exact congrArg (true && ·) (by
  refine Eq.trans ?_ (Ap (DS t) (Hx t MD) _).symm;rw [QR];rfl)
 rw [Aq h];rfl
theorem Ye(t:Nd):TQ t=HV t:=by
 rw [TQ,uE,show HV t=(Ae (t.c=18)&&CD t) from rfl];by_cases h:t.c=18
 rw [Je,IZ,Hw,Ex,h,Ap,Ap];exact congrArg (true && ·) (by
  refine Eq.trans ?_ (Ap (DS t) (Fa t [FA,CX [10],CX [10,18,9]]) _).symm;rw [Vt,Ki,O8,show CX [10,18,9] (V t 2).c=((Ae ((V t 2).c=10) || Ae ((V t 2).c=18)) || Ae ((V t 2).c=9)) by simp [CX,Bool.or_assoc],← xA];rfl)
 rw [Aq h];rfl
theorem Ys(t:Nd):TE t=MQ t:=by
 rw [TE,MQ];by_cases h:t.c=6
 rw [Je,IZ,Hw,Ex,h,Ap,Ap,Ap];exact congrArg (true && ·) (by
  refine Eq.trans ?_ (Ap (FE t.i) (Fa t [Il,fun k=>FA k || CX [9] k]) _).symm;rw [Sn,Ki,O8,SJ,show Cg (V t 1)=(FA (V t 1).c&&CD (V t 1)) from rfl,SS])
 rw [Aq h];rfl
def NG(t:Nd):Bool :=
 bif Ct [16,9] t.c then Eh t || Hj t
 else bif Ae (t.c=13) then Eh t&&Ae ((V t 0).c=33)
 else bif Ae (t.c=12) then Eh t&&Ae ((V t 1).c=33)
 else bif Ae (t.c=11) then Eh t&&Ae ((V t 0).c=33)
 else false
theorem Vn{t:Nd}(h:t.c=13∨t.c=11)(hp:CD t=true):t.b.length=1:=by
 rw [Je,IZ,Cr,Cr] at hp;have hf:=hp.1.2;rcases h with h|h <;> rw [Ex,h] at hf
 have:Fa t [CX [30,33]]=true:=hf;rw [Fa,Cr,BQ] at this;exact this.1;have:Fa t [FA]=true:=hf;rw [Fa,Cr,BQ] at this;exact this.1
theorem Qw{t:Nd}(h:t.c=12∨t.c=6)(hp:CD t=true):t.b.length=2:=by
 rw [Je,IZ,Cr,Cr] at hp;have hf:=hp.1.2;rcases h with h|h <;> rw [Ex,h] at hf
 have:Fa t [FA,FA]=true:=hf;rw [Fa,Cr,BQ] at this;exact this.1;have:Fa t [Il,fun k=>FA k || CX [9] k]=true:=hf;rw [Fa,Cr,BQ] at this;exact this.1
theorem VH{a b c:Bool}(h:a=true→b=true):(a&&c)=((b&&c)&&a):=by revert h;cases a <;> cases b <;> cases c <;> simp
theorem VT(t:Nd):NG t=Mn t:=by
 rw [NG,Mn,O8,Eh];unfold LX;by_cases h:t.c=16;rw [h];exact (show (CD t || false)=_ from Gg _);by_cases h1:t.c=9;rw [h1];rfl;by_cases h2:t.c=13;have hl:CD t=true→Ae (((t.b.length:Int)-1)=0)=true:=fun hp=>by rw [Vn (.inl h2) hp];rfl
 rw [h2];exact (show _=((Ae (((t.b.length:Int)-1)=0)&&Ae ((V t 0).c=33))&&CD t) from VH hl);by_cases h3:t.c=12;have hl:CD t=true→Ae (((t.b.length:Int)-1)=1)=true:=fun hp=>by rw [Qw (.inl h3) hp];rfl
 rw [h3];exact (show _=((Ae (((t.b.length:Int)-1)=1)&&Ae ((V t 1).c=33))&&CD t) from VH hl);by_cases h4:t.c=11;have hl:CD t=true→Ae (((t.b.length:Int)-1)=0)=true:=fun hp=>by rw [Vn (.inr h4) hp];rfl
 rw [h4];exact (show _=((Ae (((t.b.length:Int)-1)=0)&&Ae ((V t 0).c=33))&&CD t) from VH hl);simp only [Ct,Aq h,Aq h1,Aq h2,Aq h3,Aq h4,Gg,A0,FB]
def JU(t:Nd):Bool:=(((Ae (t.c=23)&&DS t)&&Cp t 2)&&Mn (V t 0))&&El (V t 1)
theorem sF(t:Nd):JU t=(Ae (t.c=23)&&CD t):=by
 rw [JU];by_cases h:t.c=23;rw [Je,IZ,Hw,Ex,h];refine Eq.trans (b:=((DS t&&((Cp t 2&&LX (V t 0))&&CX [10] (V t 1).c))&&t.b.all CD)) ?_ rfl;rw [Ki,show ((DS t&&((Cp t 2&&LX (V t 0))&&Ae ((V t 1).c=10)))&&t.b.all CD)=((DS t&&(LX (V t 0)&&Ae ((V t 1).c=10)))&&(Cp t 2&&t.b.all CD)) by ac_rfl,X4,Mn,El];show (((DS t&&Cp t 2)&&_)&&_)=_;ac_rfl;rw [Aq h];rfl
def RS(t:Nd):Bool:=t.b.all JU&&DS t
theorem Zf{t:Nd}(h:t.c=22):RS t=CD t:=by
 rw [Je,IZ,Hw,Ex,h];refine Eq.trans (b:=((DS t&&Hx t (CX [23]))&&t.b.all CD)) ?_ rfl;rw [Ap,QR,RS,HA];congr 2;funext k;rw [sF,Ki]
def GE(t:Nd):Bool :=
 bif Ae (t.c=6) then MQ t
 else bif Ae (t.c=10) then El t
 else bif Ae (t.c=18) then HV t
 else bif Ae (t.c=22) then CD t
 else bif Ae (t.c=11) then (FE t.i&&Cp t 1)&&Cg (V t 0)
 else bif Ct [12,16] t.c then (DS t&&Cp t 2)&&t.b.all Cg
 else bif Ae (t.c=13) then (DS t&&Cp t 1)&&(Kc (V t 0) 30 || Kc (V t 0) 33)
 else bif Ct [14,15] t.c then (DS t&&Cp t 1)&&Kc (V t 0) 30
 else bif Ct [17,21] t.c then (DS t&&Cp t 1)&&Cg (V t 0)
 else bif Ae (t.c=20) then (DS t&&Ae ((t.b.length:Int)≤1))&&t.b.all Cg
 else bif Ae (t.c=19) then ((DS t&&Cp t 2)&&(Hj (V t 0) || Cg (V t 0)))&&El (V t 1)
 else false
theorem Vd(t:Nd):Kc t 30=(CX [30] t.c&&CD t):=by
 rw [Kc,Ki,Cg];by_cases h:t.c=30;rw [h];rfl;rw [Aq h];rfl
theorem oX(t:Nd):Kc t 33=(Ae (t.c=33)&&CD t):=by
 rw [Kc,Cg];by_cases h:t.c=33;rw [h];rfl;rw [Aq h];rfl
theorem rD(t:Nd):(Kc t 30 || Kc t 33)=(CX [30,33] t.c&&CD t):=by
 rw [Vd,oX,SS,Ki];congr 1;simp [CX,Bool.or_comm]
theorem uU{t:Nd}:(Ae ((t.b.length:Int)≤1)&&t.b.all Cg)=((Cp t 0 || Fa t [FA])&&t.b.all CD):=by
 by_cases h:t.b.length=0;rw [Jb.1 h,show Cp t 0=true by rw [Cp,BQ];omega];rfl;by_cases h1:t.b.length=1;rw [show Cp t 0=false from Ok 0 h,Bool.false_or,V8,show Ae ((t.b.length:Int)≤1)=Cp t 1 by rw [Cp,decide_eq_decide];omega,iS];rfl;rw [show Cp t 0=false from Ok 0 h,Tm h1,Aq O];rfl
theorem KZ(t:Nd):GE t=Eh t:=by
 rw [Eh];by_cases h:t.c=6;rw [GE,MQ,h];rfl;by_cases h1:t.c=10;rw [GE,El,h1];rfl;by_cases h2:t.c=18;rw [GE,HV,h2];rfl;by_cases h3:t.c=22;rw [GE,h3];rfl;rw [Je,IZ];unfold GE Hw Ex;by_cases h4:t.c=11;rw [h4];exact KF;by_cases h5:t.c=12;rw [h5];exact R9;by_cases h6:t.c=16;rw [h6];exact R9;by_cases h7:t.c=13;rw [h7];refine Eq.trans ?_ (KF (X:=DS t) (q:=CX [30,33]));rw [← rD];rfl;by_cases h8:t.c=14;rw [h8];refine Eq.trans ?_ (KF (X:=DS t) (q:=CX [30]));rw [← Vd];rfl;by_cases h9:t.c=15;rw [h9];refine Eq.trans ?_ (KF (X:=DS t) (q:=CX [30]));rw [← Vd];rfl;by_cases h10:t.c=17;rw [h10];exact KF;by_cases h11:t.c=21;rw [h11];exact KF;by_cases h12:t.c=20;rw [h12];refine Eq.trans (b:=(DS t&&Ae ((t.b.length:Int)≤1))&&t.b.all Cg) rfl ?_;rw [Ap,uU,← Ap];rfl;by_cases h13:t.c=19;rw [h13];refine Eq.trans (b:=((DS t&&Cp t 2)&&(Hj (V t 0) || Cg (V t 0)))&&El (V t 1)) U (Eq.trans (b:=((DS t&&Fa t [fun k=>FA k || CX [9] k,CX [10]])&&t.b.all CD)) ?_ U);rw [Ap (DS t) (Fa t _),Sn,Ki,Ki,O8,show Cg (V t 0)=(FA (V t 0).c&&CD (V t 0)) from rfl,SS,El];ac_rfl;simp only [MD,Ct,Aq h,Aq h1,Aq h2,Aq h3,Aq h4,Aq h5,Aq h6,Aq h7,Aq h8,Aq h9,Aq h10,Aq h11,Aq h12,Aq h13,Gg,A0,FB]
structure Na (t:Nd):Prop where
  ex:∀ (p:Option Addr) (c:Nat) (D:Nat→Prop) (w:Ad),Bo w D t.b (.slice p t.b.length c)→Bx Aj 78 #[BV t (.slice p t.b.length c)] w fun r w'=>r = .bool (Cg t)∧G w w'
  bl:∀ (p:Option Addr) (c:Nat) (D:Nat→Prop) (w:Ad),Bo w D t.b (.slice p t.b.length c)→Bx Aj 62 #[BV t (.slice p t.b.length c)] w fun r w'=>r = .bool (El t)∧G w w'
  st:∀ (p:Option Addr) (c:Nat) (D:Nat→Prop) (w:Ad),Bo w D t.b (.slice p t.b.length c)→Bx Aj 80 #[BV t (.slice p t.b.length c)] w fun r w'=>r = .bool (Eh t)∧G w w'
  fi:∀ (p:Option Addr) (c:Nat) (D:Nat→Prop) (w:Ad),Bo w D t.b (.slice p t.b.length c)→Bx Aj 97 #[BV t (.slice p t.b.length c)] w fun r w'=>r = .bool (HV t)∧G w w'
  cm:∀ (p:Option Addr) (c:Nat) (D:Nat→Prop) (w:Ad),Bo w D t.b (.slice p t.b.length c)→Bx Aj 125 #[BV t (.slice p t.b.length c)] w fun r w'=>r = .bool (Mn t)∧G w w'
def KJ(t:Nd):Prop:=∀ k,count k<count t→Na k
theorem KJ.ba{t:Nd}(ih:KJ t){i:Nat}(h:i<t.b.length):Na (V t i):=by
 refine ih _ ?_;rw [D6 h];have:=Mt (AN h);omega
theorem MA{w:Ad}{D:Nat→Prop}{t:Nd}{p:Option Addr}{c:Nat}(hk:Bo w D t.b (.slice p t.b.length c))(ih:KJ t)(i:Nat):∃ p' c',i<t.b.length→p=some ⟨E5 p,Gq p,none⟩∧Cv w (E5 p) (Gq p+i*9) (Cs (V t i) (.slice p' (V t i).b.length c'))∧Bo w D (V t i).b (.slice p' (V t i).b.length c')∧Na (V t i):=by
 obtain ⟨p',c',h⟩:=SU hk i;exact ⟨p',c',fun hi=>⟨(h hi).1,(h hi).2.1,(h hi).2.2,ih.ba hi⟩⟩
theorem Qe(t:Nd)(p:Option Addr)(c:Nat)(w:Ad):Bx Aj 60 #[BV t (.slice p t.b.length c)] w fun r w'=>r = .bool (Hj t)∧G w w':=by
 have g:=G.refl w;refine Cj 17 [0] Tryz.func60 ?_;refine CN fun _ _ _ _ g E=>?_;refine AC ?_;exact ⟨rfl,g⟩
theorem Q8(l:List Nd)(p:Option Addr)(c:Nat)(D:Nat→Prop)(w:Ad)(hk:Bo w D l (.slice p l.length c))(hr:∀ k∈l,Na k)(ag:l.length≤1000000):Bx Aj 95 #[.slice p l.length c] w fun r w'=>r = .bool (l.all Cg)∧G w w':=by
 have g:=G.refl w;obtain ⟨p',c',hpe,_,ae⟩:=hk;injection hpe with hpe _ af;subst hpe af;refine Cj 16 [0] Tryz.func95 ?_;refine R ?_;refine GZ (fun (i:Nat) u1=>(i≤l.length∧∀ j,(h:j<l.length)→j<i→Cg l[j]=true)∧G w u1) [(0,True,_)] (fun (i:Nat)=>[(3,True,.int .i64 i)]) (fun (i:Nat)=>l.length-i) (0) ⟨⟨Bh _,fun j _ hj=>absurd hj (CQ j)⟩,G.refl _⟩ (K U (K U (Bm _))) ?_;rintro i u1 ⟨ad,aa⟩;have g:=g.trans aa;refine Ao (Ao (Ay (As U (As U (ED AB U (G2 U U (Al (kq (CB U (fun h1=>?_) (fun h1=>?_))))))))));have h1:i<l.length:=by simp only [BQ] at h1;omega
 obtain ⟨b,o,rfl,hD,xs,hR,hX⟩:=ae O;obtain ⟨p',c',hcell,ac⟩:=I9 hR hX h1;refine CU (kq (Ao (DY (Ao (Ay (As U (As U (Hh AB U U O (CH A3 U U (hcell.a g) (F1 U (BK Nc Cf (CF U CT) U) ((hr _ (AN h1)).ex _ _ D _ (ac.a g)) (fun ah ab=>?_)))))))))));have g:=g.trans ab;have aa:=aa.trans (ab);refine Az (fun h2=>?_) fun h2=>?_;(try simp only [BJ] at h2);refine Cw ?_;rw [eq_comm,CW];exact ⟨_,AN h1,by simpa using h2⟩;refine R ?_;refine BL [3,0] ?_;refine Al (fun a ha=>?_);refine ⟨i+1,ha,⟨⟨h1,fun j h hj=>?_⟩,aa⟩,O⟩;by_cases e:j=i;subst e;simpa using h2;exact ad.2 j h O;refine Cw ?_;rw [eq_comm,BM];intro x hx;obtain ⟨j,hj,rfl⟩:=Dv hx;exact ad.2 j hj (by simp only [CK] at h1;omega)
theorem U9(t:Nd)(n:Int)(p:Option Addr)(c:Nat)(D:Nat→Prop)(w:Ad)(hk:Bo w D t.b (.slice p t.b.length c))(h:Na t):Bx Aj 99 #[BV t (.slice p t.b.length c),.int .i64 n] w fun r w'=>r = .bool (Kc t n)∧G w w':=by
 have g:=G.refl w;refine Cj 13 [0,1] Tryz.func99 ?_;refine CN fun _ _ _ _ g E=>?_;refine R ?_;refine F4 (fun hc=>h.ex _ _ D _ (hk.a g)) (Do fun aa g11 g E=>?_);refine AC ?_;exact ⟨rfl,g⟩
theorem yH(t:Nd)(p:Option Addr)(c:Nat)(D:Nat→Prop)(w:Ad)(hk:Bo w D t.b (.slice p t.b.length c))(ih:KJ t)(ah:t.b.length≤1000000):Bx Aj 78 #[BV t (.slice p t.b.length c)] w fun r w'=>r = .bool (Cg t)∧G w w':=by
 rw [← Mh];have g:=G.refl w;obtain ⟨p0,c0,aa⟩:=MA hk ih 0;have hr:∀ k∈t.b,Na k:=fun k hk=>ih k (Mt hk);refine Cj 165 [0] Tryz.func78 ?_;refine CN fun _ _ _ _ g E=>?_;refine Az (fun h1=>?_) fun h1=>?_;(try simp only [BJ] at h1);refine Cw ?_;unfold Hz;simp only [Ct,h1,A8,A0] <;> rfl
 refine Az (fun h2=>?_) fun h2=>?_;(try simp only [BJ] at h2);refine Cw ?_;unfold Hz;simp only [Ct,h1,h2,A8,A0] <;> rfl
 refine Az (fun h3=>?_) fun h3=>?_;(try simp only [BJ] at h3);refine Cw ?_;unfold Hz;simp only [Ct,h1,h2,h3,A8,A0] <;> rfl
 refine R ?_;refine' AZ [1,2,3,4,12] (fun ay=>?y4) (kq ?n4)
 case y4 =>
  refine R ?_;refine BL [49,1,2,3,4,12] ?_;exact Al AX
 case n4 =>
  refine Az (fun h5=>?_) fun h5=>?_;(try simp only [BJ] at h5);refine R ?_;refine DA (M2 _ _) (Do fun ax a3 g E=>?_);refine Cw ?_;unfold Hz;simp only [Ct,h1,h2,h3,h5,A8,A0] <;> rfl
  refine Az (fun h6=>?_) fun h6=>?_;(try simp only [BJ] at h6);refine Ao (Ay (AF E6 U (AL DU U (E.E.j U) (F1 U (BK S9 Cf (CF U CT) U) (M2 _ _) (fun a2 ak=>?_)))));have g:=g.trans ak;replace E:=E.a ak;refine As U (AD U U U (fun _=>A9 (H U)) (AD U U U (fun _=>GA (Am U id) Bl) (AG U (fun _=>ES (H U) (Am U id)) (As U (AD U U U (fun _=>AE AW (H U)) (BU U U U (AU Bj (Am U id) (fun _=>E.E.j U)) (AD U U U (fun _=>CS AB (Am U id) Bl (fun hc=>FO (hc.2)) (fun hc=>(aa Es).1)) (BU U U U (A2 A3 (Am U id) U (fun hc=>(aa Es).2.1.a g)) (E9 U U U (fun _=>(BK Nc Cf (Cu (Am U id) (CY)) U)) (fun hc=>(aa Es).2.2.2.ex _ _ D _ ((aa Es).2.2.1.a g)) (fun a4 aj=>?_))))))))));have g:=g.trans aj;replace E:=E.a aj;refine Cw ?_;unfold Hz;simp only [Ct,h1,h2,h3,h5,h6,A8,A0] <;> rfl
  refine Az (fun h7=>?_) fun h7=>?_;(try simp only [BJ] at h7);refine R ?_;refine F4 (fun hc=>Q8 _ _ _ D _ (hk.a g) hr ah) (Do fun a1 az g E=>?_);refine Cw ?_;unfold Hz;simp only [Ct,h1,h2,h3,h5,h6,h7,A8,A0] <;> rfl
  refine Az (fun h8=>?_) fun h8=>?_;(try simp only [BJ] at h8);refine Ao (Ay (As U (As U (AD U U U (fun _=>A9 (H U)) (AD U U U (fun _=>P4 (Am U id) Bl) (AG U (fun _=>ES (H U) (Am U id)) (As U (AD U U U (fun _=>AE AW (H U)) (BU U U U (AU Bj (Am U id) (fun _=>E.E.j U)) (E9 U U U (fun _=>(BK UG Cf (Cu (Am U id) (CY)) U)) (fun hc=>Q8 _ _ _ D _ (hk.a g) hr ah) (fun a0 ai=>?_)))))))))));have g:=g.trans ai;replace E:=E.a ai;refine AG U (fun _=>ES (H U) (Am U id)) (BO U (Al (kq (DZ (FJ U U ?_)))));refine ⟨Ib ?_,g⟩;unfold Hz;simp only [Ct,h1,h2,h3,h5,h6,h7,h8,A8,A0] <;> rfl
  refine Ao (Ay (FM U U (BO U (Al (kq (CB U (fun h9=>?_) (fun h9=>?_)))))));(try simp only [BJ] at h9);refine Ao (Ay (AF E6 U (AL DU U (E.E.j U) (Mb U U (As U (AD U U U (fun _=>AE E6 (H U)) (BU U U U (AU DU (Am U id) (fun _=>E.E.j U)) (AD U U U (fun _=>QC (Am U id) Bl) (AG U (fun _=>Gv (H U) (Am U id)) (As U (AD U U U (fun _=>A9 (H U)) (AD U U U (fun _=>GA (Am U id) Bl) (AG U (fun _=>ES (H U) (Am U id)) (As U (AD U U U (fun _=>AE AW (H U)) (?_))))))))))))))));refine BU U U U (AU Bj (Am U id) (fun _=>E.E.j U)) (AD U U U (fun _=>CS AB (Am U id) Bl (fun hc=>FO (hc.2)) (fun hc=>(aa Es).1)) (BU U U U (A2 A3 (Am U id) U (fun hc=>(aa Es).2.1.a g)) (E9 U U U (fun _=>(BK Nc Cf (Cu (Am U id) (CY)) U)) (fun hc=>(aa Es).2.2.2.ex _ _ D _ ((aa Es).2.2.1.a g)) (fun au ag=>?_))));have g:=g.trans ag;replace E:=E.a ag;refine Cw ?_;unfold Hz;simp only [Ct,h1,h2,h3,h5,h6,h7,h8,h9,A8,A0] <;> rfl
  refine Az (fun ab=>?_) fun ab=>?_;(try simp only [BJ] at ab);refine R ?_;refine DA (jC _ _) (Do fun ar am g E=>?_);refine R ?_;refine F4 (fun hc=>Q8 _ _ _ D _ (hk.a g) hr ah) (Do fun aq aw g E=>?_);refine Cw ?_;unfold Hz;simp only [Ct,h1,h2,h3,h5,h6,h7,h8,h9,ab,A8,A0] <;> rfl
  refine R ?_;refine' AZ [1,2,3,4,12] (fun an=>?y11) (kq ?n11)
  case y11 =>
   refine R ?_;refine' AZ [1,2,3,4,12] (fun ao=>?y12) AX
   case y12 =>
    refine R ?_;refine' AZ [1,2,3,4,12] (fun al=>?y13) AX
    case y13 =>
     refine R ?_;refine BL [134,1,2,3,4,12] ?_;exact Al AX
  case n11 =>
   refine CB U (fun ac=>?_) (fun ac=>?_);(try simp only [BJ] at ac);refine Ao (Ay (As U (As U (AD U U U (fun _=>A9 (H U)) (AD U U U (fun _=>GA (Am U id) Bl) (AG U (fun _=>ES (H U) (Am U id)) (As U (AD U U U (fun _=>AE AW (H U)) (BU U U U (AU Bj (Am U id) (fun _=>E.E.j U)) (AD U U U (fun _=>CS AB (Am U id) Bl (fun hc=>FO (hc.2)) (fun hc=>(aa Es).1)) (BU U U U (A2 A3 (Am U id) U (fun hc=>(aa Es).2.1.a g)) (E9 U U U (fun _=>(BK Nc Cf (Cu (Am U id) (CY)) U)) (fun hc=>(aa Es).2.2.2.ex _ _ D _ ((aa Es).2.2.1.a g)) (fun ap ae=>?_)))))))))))));have g:=g.trans ae;replace E:=E.a ae;refine Cw ?_;unfold Hz;simp only [Ct,h1,h2,h3,h5,h6,h7,h8,h9,ab,ac,A8,A0] <;> rfl
   refine Ao (Ay (FM U U (BO U (Al (kq (CB U (fun ad=>?_) (fun ad=>?_)))))));(try simp only [BJ] at ad);refine Ao (Ay (As U (As U (AD U U U (fun _=>A9 (H U)) (AD U U U (fun _=>GA (Am U id) Bl) (AG U (fun _=>ES (H U) (Am U id)) (As U (AD U U U (fun _=>AE AW (H U)) (BU U U U (AU Bj (Am U id) (fun _=>E.E.j U)) (AD U U U (fun _=>CS AB (Am U id) Bl (fun hc=>FO (hc.2)) (fun hc=>(aa Es).1)) (BU U U U (A2 A3 (Am U id) U (fun hc=>(aa Es).2.1.a g)) (E9 U U U (fun _=>(BK PL Cf (Cu (Am U id) (CY)) U)) (fun hc=>(aa Es).2.2.2.bl _ _ D _ ((aa Es).2.2.1.a g)) (fun av af=>?_)))))))))))));have g:=g.trans af;replace E:=E.a af;refine Cw ?_;unfold Hz;simp only [Ct,h1,h2,h3,h5,h6,h7,h8,h9,ab,ac,ad,A8,A0] <;> rfl
   refine Cw ?_;unfold Hz;simp only [Ct,h1,h2,h3,h5,h6,h7,h8,h9,ab,ac,ad,A8,A0] <;> rfl
theorem ZH(t:Nd)(p:Option Addr)(c:Nat)(D:Nat→Prop)(w:Ad)(hk:Bo w D t.b (.slice p t.b.length c))(ih:KJ t)(ae:t.b.length≤1000000):Bx Aj 62 #[BV t (.slice p t.b.length c)] w fun r w'=>r = .bool (El t)∧G w w':=by
 rw [← Yh,Tk];have g:=G.refl w;refine Cj 26 [0] Tryz.func62 ?_;refine CN fun _ w1 _ _ g E=>?_;refine Az (fun h1=>?_) fun h1=>?_;have h1:(!Ae (t.c=10) || !DS t)=true:=h1;refine Cw ?_;rw [h1];rfl;have h1:(!Ae (t.c=10) || !DS t)=false:=h1;refine R ?_;refine GZ (fun (i:Nat) u1=>(i≤t.b.length∧∀ j,(h:j<t.b.length)→j<i→Eh t.b[j]=true)∧G w1 u1) [(1,True,_)] (fun (i:Nat)=>[(3,True,.int .i64 i)]) (fun (i:Nat)=>t.b.length-i) (0) ⟨⟨Bh _,fun j _ hj=>absurd hj (CQ j)⟩,G.refl _⟩ (K U (K U (Bm _))) ?_;rintro i u1 ⟨ad,aa⟩;have g:=g.trans aa;replace E:=E.a aa;refine Az (fun h2=>?_) fun h2=>?_;have h2:i<t.b.length:=by simp only [BQ] at h2;omega
 obtain ⟨hpe,p2,c2,hcell,ac⟩:=Ba hk h2;have hr:=ih.ba h2;refine R ?_;refine DA (hr.st _ _ D _ (ac.a g)) (fun af ab=>?_);have g:=g.trans ab;have aa:=aa.trans (ab);replace E:=E.a ab;refine Az (fun h3=>?_) fun h3=>?_;(try simp only [BJ] at h3);refine Cw ?_;rw [h1,A0,eq_comm,CW];exact ⟨_,AN h2,by rw [← D6 h2];simpa using h3⟩;refine R ?_;refine BL [3,1] ?_;refine Al (fun a ha=>?_);refine ⟨i+1,ha,⟨⟨h2,fun j h hj=>?_⟩,aa⟩,O⟩;by_cases e:j=i;subst e;rw [← D6 h2];simpa using h3;exact ad.2 j h O;refine Cw ?_;rw [h1,A0,eq_comm,BM];intro x hx;obtain ⟨j,hj,rfl⟩:=Dv hx;exact ad.2 j hj (by simp only [CK] at h2;omega)
theorem ZD(t:Nd)(p:Option Addr)(c:Nat)(D:Nat→Prop)(w:Ad)(hk:Bo w D t.b (.slice p t.b.length c))(ih:KJ t):Bx Aj 97 #[BV t (.slice p t.b.length c)] w fun r w'=>r = .bool (HV t)∧G w w':=by
 rw [← Ye,TQ];have g:=G.refl w;refine JW (m:=46) Tryz.func97 U U [(0,True,_)] (K U (Bm _)) ?_;refine Ao (Ay (CN fun _ _ _ _ g E=>?_));refine BO U (Al (kq (Ao (Ao (Ay (AF FK U (AL Cd U (E.E.j U) (MU U U (As U (AD U U U (fun _=>AE E6 (H U)) (BU U U U (AU DU (Am U id) (fun _=>E.E.j U)) (AD U U U (fun _=>Sz (Am U id) Bl) (AG U (fun _=>Gv (H U) (Am U id)) (As U (AD U U U (fun _=>AE AW (H U)) (BU U U U (AU Bj (Am U id) (fun _=>E.E.j U)) (?_)))))))))))))))));refine AD U U U (fun _=>LP AB (Am U id)) (AD U U U (fun _=>KP (Am U id) Bl) (AG U (fun _=>Gv (H U) (Am U id)) (Al (kq (CB U (fun h1=>?_) (fun h1=>?_))))));have h1:((!Ae (t.c=18) || !DS t) || !Cp t 3)=true:=h1;refine Ao (Ay (BO U (Al (kq (DZ (FJ U U ?_))))));refine ⟨Ib ?_,g⟩;rw [h1];rfl;have h1:((!Ae (t.c=18) || !DS t) || !Cp t 3)=false:=h1;have au:t.b.length=3:=by simp only [Cp,F9,Bool.not_eq_false',BQ] at h1;omega
 obtain ⟨hpe,p0,c0,ad,ae⟩:=Ba hk (i:=0) O;obtain ⟨_,p1,c1,ac,af⟩:=Ba hk (i:=1) O;obtain ⟨_,p2,c2,ab,aa⟩:=Ba hk (i:=2) O;have ak:=ih.ba (i:=0) O;have aj:=ih.ba (i:=1) O;have ag:=ih.ba (i:=2) O;refine CU (kq (Ao (Ay (AF AW U (AL Bj U (E.E.j U) (Dn AB U U O hpe (CH A3 U U (ab.a g) (A1 fun _ _ _ _ g E=>?_))))))));refine AS fun _ _ _ g E=>?_;refine Al (kq (Ao (Ay (AF AW U (AL Bj U (E.Q.j U) (Dn AB U U O hpe (CH A3 U U (ad.a g) (F1 U (BK Nc Cf (CF U CT) U) (ak.ex _ _ D _ (ae.a g)) (fun ap ai=>?_)))))))));have g:=g.trans ai;replace E:=E.a ai;refine As U (AD U U U (fun _=>AE AW (H U)) (BU U U U (AU Bj (Am U id) (fun _=>E.Q.j U)) (AD U U U (fun _=>CS AB (Am U id) Bl (fun _=>O) (fun _=>hpe)) (BU U U U (A2 A3 (Am U id) U (fun _=>ac.a g)) (E9 U U U (fun _=>(BK PL Cf (Cu (Am U id) (CY)) U)) (fun hc=>aj.bl _ _ D _ (af.a g)) (fun ao ah=>?_))))));have g:=g.trans ah;replace E:=E.a ah;refine R ?_;refine F4 (fun hc=>ag.bl _ _ D _ (aa.a g)) (Do fun al am g E=>?_);refine R ?_;refine F4 (fun hc=>ag.fi _ _ D _ (aa.a g)) (Do fun ar av g E=>?_);refine R ?_;refine F4 (fun hc=>Qe _ _ _ _) (Do fun aq an g E=>?_);refine Cw ?_;rw [h1];rfl
theorem cU(t:Nd)(p:Option Addr)(c:Nat)(D:Nat→Prop)(w:Ad)(hk:Bo w D t.b (.slice p t.b.length c))(ih:KJ t):Bx Aj 59 #[BV t (.slice p t.b.length c)] w fun r w'=>r = .bool (MQ t)∧G w w':=by
 rw [← Ys,TE];have g:=G.refl w;obtain ⟨p0,c0,ac⟩:=MA hk ih 0;obtain ⟨p1,c1,aa⟩:=MA hk ih 1;refine Cj 38 [0] Tryz.func59 ?_;refine CN fun _ _ _ _ g E=>?_;refine R ?_;refine F4 (fun hc=>M2 _ _) (Do fun w9 g9 g E=>?_);refine R ?_;refine AD U U U (fun _=>CS AB (Am U id) Bl (fun hc=>FO (hc.2)) (fun hc=>(ac Es).1)) (BU U U U (A2 A3 (Am U id) U (fun hc=>(ac Es).2.1.a g)) (F4 (fun hc=>Tv _ _ _ _) (fun ah ad=>?_)));have g:=g.trans ad;replace E:=E.a ad;refine AG U (fun _=>ES (H U) (Am U id)) (As U (AD U U U (fun _=>AE AW (H U)) (BU U U U (AU Bj (Am U id) (fun _=>E.E.j U)) (AD U U U (fun _=>CS AB (Am U id) Bl (fun hc=>FO (hc.2)) (fun hc=>(aa Es).1)) (BU U U U (A2 A3 (Am U id) U (fun hc=>(aa Es).2.1.a g)) (E9 U U U (fun _=>(BK UH Cf (Cu (Am U id) (CY)) U)) (fun hc=>Qe _ _ _ _) (fun af ae=>?_)))))));have g:=g.trans ae;replace E:=E.a ae
 refine AD U U U (fun _=>A9 (Am U id)) (AD U U U (fun _=>AE AW (H U)) (BU U U U (AU Bj (Am U id) (fun _=>E.E.j U)) (AD U U U (fun _=>CS AB (Am U id) Bl (fun hc=>FO (hc.1.2)) (fun hc=>(aa (IY hc.1.2)).1)) (BU U U U (A2 A3 (Am U id) U (fun hc=>(aa (IY hc.1.2)).2.1.a g)) (E9 U U U (fun _=>(BK Nc Cf (Cu (Am U id) (CY)) U)) (fun hc=>(aa (IY hc.1.2)).2.2.2.ex _ _ D _ ((aa (IY hc.1.2)).2.2.1.a g)) (fun ag ab=>?_))))));have g:=g.trans ab;replace E:=E.a ab;refine AC ?_;exact ⟨rfl,g⟩
theorem Hd{t:Nd}{i:Nat}(h:i<t.b.length):count (V t i)<count t:=by
 rw [D6 h];have:=Mt (AN h);omega
theorem XS{t:Nd}(ih:KJ t){i:Nat}(h:i<t.b.length):KJ (V t i):=fun k hk=>ih k (Nat.lt_trans hk (Hd h))
theorem eH(t:Nd):(!JU t)=((((!Ae (t.c=23) || !DS t) || !Cp t 2) || !Mn (V t 0)) || !El (V t 1)):=by
 rw [JU];cases Ae (t.c=23) <;> cases DS t <;> cases Cp t 2 <;> cases Mn (V t 0) <;> cases El (V t 1) <;> rfl
theorem fX(t:Nd)(p:Option Addr)(c:Nat)(D:Nat→Prop)(w:Ad)(hk:Bo w D t.b (.slice p t.b.length c))(ih:KJ t)(aj:t.b.length≤1000000):Bx Aj 98 #[BV t (.slice p t.b.length c)] w fun r w'=>r = .bool (RS t)∧G w w':=by
 have g:=G.refl w;refine Cj 50 [0] Tryz.func98 ?_;refine Ao (Ay (CN fun _ w1 _ _ g E=>?_));refine BO U (Al (kq (Ao (Ao (Ay (BO U (Al (kq (DY (GZ (fun (i:Nat) u1=>(i≤t.b.length∧∀ j,(h:j<t.b.length)→j<i→JU t.b[j]=true)∧G w1 u1) [(1,True,_)] (fun (i:Nat)=>[(3,True,.int .i64 i)]) (fun (i:Nat)=>t.b.length-i) (0) ⟨⟨Bh _,fun j _ hj=>absurd hj (CQ j)⟩,G.refl _⟩ (K U (K U (Bm _))) ?_))))))))));rintro i u1 ⟨ag,aa⟩;have g:=g.trans aa;replace E:=E.a aa;refine Ao (Ao (Ay (As U (AF AW U (AL Bj U (E.E.j U) (ED AB U (G2 U U (Al (kq (CB U (fun h1=>?_) (fun h1=>?_)))))))))));have h1:i<t.b.length:=by simp only [BQ] at h1;omega
 obtain ⟨hpe,p2,c2,hcell,ad⟩:=Ba hk h1;obtain ⟨p3,c3,ab⟩:=MA ad (XS ih h1) 0;obtain ⟨p4,c4,ac⟩:=MA ad (XS ih h1) 1;refine CU (kq (Ao (DY (Ao (Ay (AF AW U (AL Bj U (E.E.j U) (As U (Dn AB U U O hpe (CH A3 U U (hcell.a g) (A1 fun _ _ ga _ g E=>?_)))))))))));have ah:=ga.ge aa;have aa:=aa.trans (ga.g);refine AS fun _ ga _ g E=>?_;replace aa:=CO aa ga O;refine Al (kq (Ao (Ay (AF FK U (AL Cd U (E.E.j U) (MU U U (As U (AD U U U (fun _=>AE E6 (H U)) (BU U U U (AU DU (Am U id) (fun _=>E.E.j U)) (AD U U U (fun _=>Sz (Am U id) Bl) (AG U (fun _=>Gv (H U) (Am U id)) (As U (AD U U U (fun _=>AE AW (H U)) (BU U U U (AU Bj (Am U id) (fun _=>E.E.j U)) (AD U U U (fun _=>LP AB (Am U id)) (AD U U U (fun _=>KP (Am U id) Bl) (?_)))))))))))))))))
 refine AG U (fun _=>Gv (H U) (Am U id)) (As U (AD U U U (fun _=>AE AW (H U)) (BU U U U (AU Bj (Am U id) (fun _=>E.E.j U)) (AD U U U (fun _=>CS AB (Am U id) Bl (fun hc=>FO (hc.2)) (fun hc=>(ab Es).1)) (BU U U U (A2 A3 (Am U id) U (fun hc=>(ab Es).2.1.a g)) (E9 U U U (fun _=>(BK iJ Cf (Cu (Am U id) (CY)) U)) (fun hc=>(ab Es).2.2.2.cm _ _ D _ ((ab Es).2.2.1.a g)) (fun ai ae=>?_)))))));have g:=g.trans ae;have aa:=aa.trans (ae);replace E:=E.a ae
 refine AD U U U (fun _=>Nl (Am U id)) (AG U (fun _=>Gv (H U) (Am U id)) (As U (AD U U U (fun _=>AE AW (H U)) (BU U U U (AU Bj (Am U id) (fun _=>E.E.j U)) (AD U U U (fun _=>CS AB (Am U id) Bl (fun hc=>FO (hc.2)) (fun hc=>(ac Es).1)) (BU U U U (A2 A3 (Am U id) U (fun hc=>(ac Es).2.1.a g)) (E9 U U U (fun _=>(BK PL Cf (Cu (Am U id) (CY)) U)) (fun hc=>(ac Es).2.2.2.bl _ _ D _ ((ac Es).2.2.1.a g)) (fun ak af=>?_))))))));have g:=g.trans af;have aa:=aa.trans (af);replace E:=E.a af;refine Az (fun h2=>?_) fun h2=>?_;have h2:JU (V t i)=false:=by simpa using (eH _).trans h2
 refine Cw ?_;rw [eq_comm,RS,show t.b.all JU=false from CW.2 ⟨_,AN h1,by rw [← D6 h1,h2];simp⟩];rfl;have h2:JU (V t i)=true:=by simpa using (eH _).trans h2
 refine R ?_;refine BL [3,1] ?_;refine Al (fun a ha=>?_);refine ⟨i+1,ha,⟨⟨h1,fun j h hj=>?_⟩,aa⟩,O⟩;by_cases e:j=i;subst e;rw [← D6 h1];exact h2;exact ag.2 j h O;refine Cw ?_
 rw [eq_comm,RS,show t.b.all JU=true from BM.2 fun x hx=>by
  obtain ⟨j,hj,rfl⟩:=Dv hx;exact ag.2 j hj (by simp only [CK] at h1;omega)];rfl
theorem QX(t:Nd)(p:Option Addr)(c:Nat)(D:Nat→Prop)(w:Ad)(hk:Bo w D t.b (.slice p t.b.length c))(ih:KJ t)(af:t.b.length≤1000000):Bx Aj 80 #[BV t (.slice p t.b.length c)] w fun r w'=>r = .bool (Eh t)∧G w w':=by
 rw [← KZ];have g:=G.refl w;obtain ⟨p0,c0,aa⟩:=MA hk ih 0;obtain ⟨p1,c1,ag⟩:=MA hk ih 1;have hr:∀ k∈t.b,Na k:=fun k hk=>ih k (Mt hk);refine JW (m:=149) Tryz.func80 U U [(0,True,_)] (K U (Bm _)) ?_;refine Ao (Ay (CN fun _ _ _ _ g E=>?_));refine BO U (Al (kq (Ao (Ay (AF AW U (AL Bj U (E.E.j U) (ED AB U (BO U (Al (kq (Ao (Ay (AF E6 U (AL DU U (E.E.j U) (Mb U U (BO U (Al (kq (?_)))))))))))))))))));refine Ao (Ao (Ay (AF FK U (AL Cd U (E.E.j U) (Al (kq (DY (Ao (Ay (FM U U (BO U (Al (kq (CB U (fun h1=>?_) (fun h1=>?_)))))))))))))));(try simp only [BJ] at h1);refine Ao (Ay (CH A3 U U E.E.row (F1 U (BK pV Cf (CF U CT) U) (cU t _ _ D _ (hk.a g) ih) (fun ba ax=>?_))));have g:=g.trans ax;replace E:=E.a ax;refine BO U (Al (kq (DZ (FJ U U ?_))));refine ⟨Ib ?_,g⟩;unfold GE;simp only [Ct,h1,A8,A0] <;> rfl
 refine Ao (Ay (FM U U (BO U (Al (kq (CB U (fun h2=>?_) (fun h2=>?_)))))));(try simp only [BJ] at h2);refine Ao (Ay (CH A3 U U E.E.row (F1 U (BK PL Cf (CF U CT) U) (ZH t _ _ D _ (hk.a g) ih af) (fun a4 am=>?_))));have g:=g.trans am;replace E:=E.a am;refine BO U (Al (kq (DZ (FJ U U ?_))));refine ⟨Ib ?_,g⟩;unfold GE;simp only [Ct,h1,h2,A8,A0] <;> rfl
 refine Ao (Ay (FM U U (BO U (Al (kq (CB U (fun h3=>?_) (fun h3=>?_)))))));(try simp only [BJ] at h3);refine Ao (Ay (CH A3 U U E.E.row (F1 U (BK uQ Cf (CF U CT) U) (ZD t _ _ D _ (hk.a g) ih) (fun a7 aw=>?_))));have g:=g.trans aw;replace E:=E.a aw;refine BO U (Al (kq (DZ (FJ U U ?_))));refine ⟨Ib ?_,g⟩;unfold GE;simp only [Ct,h1,h2,h3,A8,A0] <;> rfl
 refine Ao (Ay (FM U U (BO U (Al (kq (CB U (fun h4=>?_) (fun h4=>?_)))))));(try simp only [BJ] at h4);refine Ao (Ay (CH A3 U U E.E.row (F1 U (BK Aal Cf (CF U CT) U) (fX t _ _ D _ (hk.a g) ih af) (fun a5 av=>?_))));have g:=g.trans av;replace E:=E.a av;refine BO U (Al (kq (DZ (FJ U U ?_))));refine ⟨Ib ?_,g⟩;rw [Zf (by simpa using h4)];unfold GE;simp only [Ct,h1,h2,h3,h4,A8,A0] <;> rfl
 refine Ao (Ay (FM U U (BO U (Al (kq (CB U (fun h5=>?_) (fun h5=>?_)))))));(try simp only [BJ] at h5);refine Ao (Ay (AF E6 U (AL DU U (E.E.j U) (F1 U (BK S9 Cf (CF U CT) U) (M2 _ _) (fun bc ao=>?_)))));have g:=g.trans ao;replace E:=E.a ao;refine As U (AD U U U (fun _=>A9 (H U)) (AD U U U (fun _=>GA (Am U id) Bl) (AG U (fun _=>ES (H U) (Am U id)) (As U (AD U U U (fun _=>AE AW (H U)) (BU U U U (AU Bj (Am U id) (fun _=>E.E.j U)) (AD U U U (fun _=>CS AB (Am U id) Bl (fun hc=>FO (hc.2)) (fun hc=>(aa Es).1)) (BU U U U (A2 A3 (Am U id) U (fun hc=>(aa Es).2.1.a g)) (E9 U U U (fun _=>(BK Nc Cf (Cu (Am U id) (CY)) U)) (fun hc=>(aa Es).2.2.2.ex _ _ D _ ((aa Es).2.2.1.a g)) (fun bf aq=>?_))))))))));have g:=g.trans aq;replace E:=E.a aq;refine AG U (fun _=>ES (H U) (Am U id)) (BO U (Al (kq (DZ (FJ U U ?_)))));refine ⟨Ib ?_,g⟩;unfold GE;simp only [Ct,h1,h2,h3,h4,h5,A8,A0] <;> rfl
 refine Ao (Ao (Ay (FM U U (BO U (Al (kq (?_)))))));refine' Rr [(1,_,_),(2,_,_),(3,_,_),(4,_,_),(12,_,_)] (K U (K U (K U (K U (K U (K U (Bm _))))))) U (fun a6=>?y6) (kq ?n6)
 case y6 =>
  refine Ay (FM U U (BO U (FD [(45,_,_),(1,_,_),(2,_,_),(3,_,_),(4,_,_),(12,_,_)] (K U (K U (K U (K U (K U (K U (Bm _))))))) (?_))));exact Al AX
 case n6 =>
  refine CB U (fun h7=>?_) (fun h7=>?_);(try simp only [BJ] at h7);refine Ao (Ay (As U (As U (AD U U U (fun _=>A9 (H U)) (AD U U U (fun _=>GA (Am U id) Bl) (AG U (fun _=>ES (H U) (Am U id)) (As U (AD U U U (fun _=>AE AW (H U)) (BU U U U (AU Bj (Am U id) (fun _=>E.E.j U)) (E9 U U U (fun _=>(BK UG Cf (Cu (Am U id) (CY)) U)) (fun hc=>Q8 _ _ _ D _ (hk.a g) hr af) (fun a8 ar=>?_)))))))))));have g:=g.trans ar;replace E:=E.a ar;refine AG U (fun _=>ES (H U) (Am U id)) (BO U (Al (kq (DZ (FJ U U ?_)))));refine ⟨Ib ?_,g⟩;unfold GE;simp only [Ct,h1,h2,h3,h4,h5,h7,A8,A0] <;> rfl
  refine Ao (Ay (FM U U (BO U (Al (kq (CB U (fun h8=>?_) (fun h8=>?_)))))));(try simp only [BJ] at h8);refine Ao (Ay (As U (As U (AD U U U (fun _=>A9 (H U)) (AD U U U (fun _=>GA (Am U id) Bl) (AG U (fun _=>ES (H U) (Am U id)) (As U (AD U U U (fun _=>AE AW (H U)) (BU U U U (AU Bj (Am U id) (fun _=>E.E.j U)) (AD U U U (fun _=>CS AB (Am U id) Bl (fun hc=>FO (hc.2)) (fun hc=>(aa Es).1)) (BU U U U (A2 A3 (Am U id) U (fun hc=>(aa Es).2.1.a g)) (E9 U U U (fun _=>(BK Uu Cf (Cu (Am U id) (Cu Bl (CY))) U)) (fun hc=>U9 _ _ _ _ D _ ((aa Es).2.2.1.a g) (aa Es).2.2.2) (fun be au=>?_)))))))))))));have g:=g.trans au;replace E:=E.a au
  refine AD U U U (fun _=>A9 (Am U id)) (AD U U U (fun _=>AE AW (H U)) (BU U U U (AU Bj (Am U id) (fun _=>E.E.j U)) (AD U U U (fun _=>CS AB (Am U id) Bl (fun hc=>FO (hc.1.2)) (fun hc=>(aa (IY hc.1.2)).1)) (BU U U U (A2 A3 (Am U id) U (fun hc=>(aa (IY hc.1.2)).2.1.a g)) (E9 U U U (fun _=>(BK Uu Cf (Cu (Am U id) (Cu Bl (CY))) U)) (fun hc=>U9 _ _ _ _ D _ ((aa (IY hc.1.2)).2.2.1.a g) (aa (IY hc.1.2)).2.2.2) (fun a9 an=>?_))))));have g:=g.trans an;replace E:=E.a an;refine AD U U U (fun _=>Gv (Am U id) (Am U id)) (AG U (fun _=>ES (H U) (Am U id)) (BO U (Al (kq (DZ (FJ U U ?_))))));refine ⟨Ib ?_,g⟩;unfold GE;simp only [Ct,h1,h2,h3,h4,h5,h7,h8,A8,A0] <;> rfl
  refine Ao (Ao (Ay (FM U U (BO U (Al (kq (?_)))))));refine' Rr [(1,_,_),(2,_,_),(3,_,_),(4,_,_),(12,_,_)] (K U (K U (K U (K U (K U (K U (Bm _))))))) U (fun bh=>?y9) (kq ?n9)
  case y9 =>
   refine Ay (FM U U (BO U (FD [(79,_,_),(1,_,_),(2,_,_),(3,_,_),(4,_,_),(12,_,_)] (K U (K U (K U (K U (K U (K U (Bm _))))))) (?_))));exact Al AX
  case n9 =>
   refine CB U (fun ab=>?_) (fun ab=>?_);(try simp only [BJ] at ab);refine Ao (Ay (As U (As U (AD U U U (fun _=>A9 (H U)) (AD U U U (fun _=>GA (Am U id) Bl) (AG U (fun _=>ES (H U) (Am U id)) (As U (AD U U U (fun _=>AE AW (H U)) (BU U U U (AU Bj (Am U id) (fun _=>E.E.j U)) (AD U U U (fun _=>CS AB (Am U id) Bl (fun hc=>FO (hc.2)) (fun hc=>(aa Es).1)) (BU U U U (A2 A3 (Am U id) U (fun hc=>(aa Es).2.1.a g)) (E9 U U U (fun _=>(BK Uu Cf (Cu (Am U id) (Cu Bl (CY))) U)) (fun hc=>U9 _ _ _ _ D _ ((aa Es).2.2.1.a g) (aa Es).2.2.2) (fun bg ap=>?_)))))))))))));have g:=g.trans ap;replace E:=E.a ap;refine AG U (fun _=>ES (H U) (Am U id)) (BO U (Al (kq (DZ (FJ U U ?_)))));refine ⟨Ib ?_,g⟩;unfold GE;simp only [Ct,h1,h2,h3,h4,h5,h7,h8,ab,A8,A0] <;> rfl
   refine Ao (Ao (Ay (FM U U (BO U (Al (kq (?_)))))));refine' Rr [(1,_,_),(2,_,_),(3,_,_),(4,_,_),(12,_,_)] (K U (K U (K U (K U (K U (K U (Bm _))))))) U (fun az=>?y11) (kq ?n11)
   case y11 =>
    refine Ay (FM U U (BO U (FD [(94,_,_),(1,_,_),(2,_,_),(3,_,_),(4,_,_),(12,_,_)] (K U (K U (K U (K U (K U (K U (Bm _))))))) (?_))));exact Al AX
   case n11 =>
    refine CB U (fun ac=>?_) (fun ac=>?_);(try simp only [BJ] at ac);refine Ao (Ay (As U (As U (AD U U U (fun _=>A9 (H U)) (AD U U U (fun _=>GA (Am U id) Bl) (AG U (fun _=>ES (H U) (Am U id)) (As U (AD U U U (fun _=>AE AW (H U)) (BU U U U (AU Bj (Am U id) (fun _=>E.E.j U)) (AD U U U (fun _=>CS AB (Am U id) Bl (fun hc=>FO (hc.2)) (fun hc=>(aa Es).1)) (BU U U U (A2 A3 (Am U id) U (fun hc=>(aa Es).2.1.a g)) (E9 U U U (fun _=>(BK Nc Cf (Cu (Am U id) (CY)) U)) (fun hc=>(aa Es).2.2.2.ex _ _ D _ ((aa Es).2.2.1.a g)) (fun a0 ah=>?_)))))))))))));have g:=g.trans ah;replace E:=E.a ah;refine AG U (fun _=>ES (H U) (Am U id)) (BO U (Al (kq (DZ (FJ U U ?_)))));refine ⟨Ib ?_,g⟩;unfold GE;simp only [Ct,h1,h2,h3,h4,h5,h7,h8,ab,ac,A8,A0] <;> rfl
    refine Ao (Ay (FM U U (BO U (Al (kq (CB U (fun ad=>?_) (fun ad=>?_)))))));(try simp only [BJ] at ad);refine Ao (Ay (As U (As U (AD U U U (fun _=>A9 (H U)) (AD U U U (fun _=>Yj (Am U id) Bl) (AG U (fun _=>ES (H U) (Am U id)) (As U (AD U U U (fun _=>AE AW (H U)) (BU U U U (AU Bj (Am U id) (fun _=>E.E.j U)) (E9 U U U (fun _=>(BK UG Cf (Cu (Am U id) (CY)) U)) (fun hc=>Q8 _ _ _ D _ (hk.a g) hr af) (fun a3 aj=>?_)))))))))));have g:=g.trans aj;replace E:=E.a aj;refine AG U (fun _=>ES (H U) (Am U id)) (BO U (Al (kq (DZ (FJ U U ?_)))));refine ⟨Ib ?_,g⟩;unfold GE;simp only [Ct,h1,h2,h3,h4,h5,h7,h8,ab,ac,ad,A8,A0] <;> rfl
    refine Ao (Ay (FM U U (BO U (Al (kq (CB U (fun ae=>?_) (fun ae=>?_)))))));(try simp only [BJ] at ae);refine Ao (Ay (As U (As U (AD U U U (fun _=>A9 (H U)) (AD U U U (fun _=>GA (Am U id) Bl) (AG U (fun _=>ES (H U) (Am U id)) (As U (AD U U U (fun _=>AE AW (H U)) (BU U U U (AU Bj (Am U id) (fun _=>E.E.j U)) (AD U U U (fun _=>CS AB (Am U id) Bl (fun hc=>FO (hc.2)) (fun hc=>(aa Es).1)) (BU U U U (A2 A3 (Am U id) U (fun hc=>(aa Es).2.1.a g)) (E9 U U U (fun _=>(BK UH Cf (Cu (Am U id) (CY)) U)) (fun hc=>Qe _ _ _ _) (fun ay al=>?_)))))))))))));have g:=g.trans al;replace E:=E.a al
    refine AD U U U (fun _=>A9 (Am U id)) (AD U U U (fun _=>AE AW (H U)) (BU U U U (AU Bj (Am U id) (fun _=>E.E.j U)) (AD U U U (fun _=>CS AB (Am U id) Bl (fun hc=>FO (hc.1.2)) (fun hc=>(aa (IY hc.1.2)).1)) (BU U U U (A2 A3 (Am U id) U (fun hc=>(aa (IY hc.1.2)).2.1.a g)) (E9 U U U (fun _=>(BK Nc Cf (Cu (Am U id) (CY)) U)) (fun hc=>(aa (IY hc.1.2)).2.2.2.ex _ _ D _ ((aa (IY hc.1.2)).2.2.1.a g)) (fun a1 ai=>?_))))));have g:=g.trans ai;replace E:=E.a ai
    refine AD U U U (fun _=>Gv (Am U id) (Am U id)) (AG U (fun _=>ES (H U) (Am U id)) (As U (AD U U U (fun _=>AE AW (H U)) (BU U U U (AU Bj (Am U id) (fun _=>E.E.j U)) (AD U U U (fun _=>CS AB (Am U id) Bl (fun hc=>FO (hc.2)) (fun hc=>(ag Es).1)) (BU U U U (A2 A3 (Am U id) U (fun hc=>(ag Es).2.1.a g)) (E9 U U U (fun _=>(BK PL Cf (Cu (Am U id) (CY)) U)) (fun hc=>(ag Es).2.2.2.bl _ _ D _ ((ag Es).2.2.1.a g)) (fun a2 ak=>?_))))))));have g:=g.trans ak;replace E:=E.a ak;refine AG U (fun _=>ES (H U) (Am U id)) (BO U (Al (kq (DZ (FJ U U ?_)))));refine ⟨Ib ?_,g⟩;unfold GE;simp only [Ct,h1,h2,h3,h4,h5,h7,h8,ab,ac,ad,ae,A8,A0] <;> rfl
    refine CU (kq (Ao (Ay (BO U (Al (kq (DZ (FJ U U ?_))))))));refine ⟨Ib ?_,g⟩;unfold GE;simp only [Ct,h1,h2,h3,h4,h5,h7,h8,ab,ac,ad,ae,A8,A0] <;> rfl
theorem Qz{t:Nd}(h:t.c=13∨t.c=11)(hp:Eh t=true):t.b.length=1:=Vn h (DF.1 hp).2
theorem UZ{t:Nd}(h:t.c=12)(hp:Eh t=true):t.b.length=2:=Qw (.inl h) (DF.1 hp).2
theorem zF(t:Nd)(p:Option Addr)(c:Nat)(D:Nat→Prop)(w:Ad)(hk:Bo w D t.b (.slice p t.b.length c))(ih:KJ t)(aa:t.b.length≤1000000):Bx Aj 125 #[BV t (.slice p t.b.length c)] w fun r w'=>r = .bool (Mn t)∧G w w':=by
 rw [← VT];have g:=G.refl w;obtain ⟨p0,c0,ab⟩:=MA hk ih 0;obtain ⟨p1,c1,af⟩:=MA hk ih 1;refine Cj 50 [0] Tryz.func125 ?_;refine CN fun _ _ _ _ g E=>?_;refine R ?_;refine' AZ [1,2,4] (fun an=>?y1) (kq ?n1)
 case y1 =>
  refine R ?_;refine BL [5,1,2,4] ?_;exact Al AX
 case n1 =>
  refine Az (fun h2=>?_) fun h2=>?_;(try simp only [BJ] at h2);refine R ?_;refine DA (QX t _ _ D _ (hk.a g) ih aa) (Do fun w9 g9 g E=>?_);refine R ?_;refine F4 (fun hc=>Qe _ _ _ _) (Do fun al g12 g E=>?_);refine Cw ?_;unfold NG;simp only [Ct,h2,A8,A0] <;> rfl
  refine Az (fun h3=>?_) fun h3=>?_;have ad:t.c=13:=by simpa using h3
  refine R ?_;refine DA (QX t _ _ D _ (hk.a g) ih aa) (Do fun am aj g E=>?_);refine R ?_;refine AD U U U (fun _=>CS AB (Am U id) Bl (fun hc=>by have:=Qz (.inl ad) hc.2;omega) (fun hc=>(ab (by have:=Qz (.inl ad) hc.2;omega)).1)) ?_;refine R ?_;refine BU U U U (AU Cd (Am U id) (fun hc=>((ab (by have:=Qz (.inl ad) hc.2;omega)).2.1.a g) 0 _ U)) ?_;refine Cw ?_;unfold NG;simp only [Ct,h2,h3,A8,A0] <;> rfl
  refine Az (fun h4=>?_) fun h4=>?_;have ac:t.c=12:=by simpa using h4
  refine R ?_;refine DA (QX t _ _ D _ (hk.a g) ih aa) (Do fun ag ah g E=>?_);refine R ?_;refine AD U U U (fun _=>CS AB (Am U id) Bl (fun hc=>by have:=UZ ac hc.2;omega) (fun hc=>(af (by have:=UZ ac hc.2;omega)).1)) ?_;refine R ?_;refine BU U U U (AU Cd (Am U id) (fun hc=>((af (by have:=UZ ac hc.2;omega)).2.1.a g) 0 _ U)) ?_;refine Cw ?_;unfold NG;simp only [Ct,h2,h3,h4,A8,A0] <;> rfl
  refine Az (fun h5=>?_) fun h5=>?_;have ae:t.c=11:=by simpa using h5
  refine R ?_;refine DA (QX t _ _ D _ (hk.a g) ih aa) (Do fun ak ai g E=>?_);refine R ?_;refine AD U U U (fun _=>CS AB (Am U id) Bl (fun hc=>by have:=Qz (.inr ae) hc.2;omega) (fun hc=>(ab (by have:=Qz (.inr ae) hc.2;omega)).1)) ?_;refine R ?_;refine BU U U U (AU Cd (Am U id) (fun hc=>((ab (by have:=Qz (.inr ae) hc.2;omega)).2.1.a g) 0 _ U)) ?_;refine Cw ?_;unfold NG;simp only [Ct,h2,h3,h4,h5,A8,A0] <;> rfl
  refine Cw ?_;unfold NG;simp only [Ct,h2,h3,h4,h5,A8,A0] <;> rfl
theorem vA:∀ n t,count t≤n→n≤1000000→Na t:=by
 intro n
 induction n with
 | zero=>intro t h;have:=JJ t;omega
 | succ n ihn =>
  intro t h hn;have ih:KJ t:=fun k hk=>ihn k O O;have aa:t.b.length≤1000000:=by have:=Ej t;omega
  exact ⟨fun p c D w hk=>yH t p c D w hk ih aa,fun p c D w hk=>ZH t p c D w hk ih aa,fun p c D w hk=>QX t p c D w hk ih aa,fun p c D w hk=>ZD t p c D w hk ih,fun p c D w hk=>zF t p c D w hk ih aa⟩
theorem yL(t:Nd)(h:count t≤1000000):Na t:=vA _ t h (HN _)
section
variable {P:BH} {n:Nat} {σ:List Ce} {c:Prop} {wb:Ad} {ty:Aw}
theorem pT{x y:A7}{k k':IntKind}{a b:Int}{ts:Array Aw}(h:Bz n σ c x (.int k a))(h':Bz n σ c y (.int k' b)):DB P n σ c wb (.call { callee:=.builtin .max,args:=#[x,y],argTypes:=ts }) ty (.int k (if b>a then b else a)):=.mk fun d pos after gd a ha hc w1 _=>by
 simp [execOp,resolve,invoke,builtin,h a ha hc,h' a ha hc,Builtin.max_,Builtin.max2]
end
theorem zG(a b:Nat):(if (b:Int)>a then (b:Int) else a)=((max a b:Nat):Int):=by split <;> omega
def Ml(t:Nd):Bool:=Ae (t.c=3)&&CD t
theorem aY(t:Nd):(!Ml t)=(((!Ae (t.c=3) || !FE t.i) || !Cp t 1) || !G8 (V t 0)):=by
 have e:Ml t=(((Ae (t.c=3)&&FE t.i)&&Cp t 1)&&G8 (V t 0)):=by
  rw [Ml];by_cases h:t.c=3;rw [Je,IZ,Hw,Ex,h,SJ];exact congrArg (true && ·) (KF (X:=FE t.i) (q:=Il)).symm |>.trans (by rfl)
  rw [Aq h];rfl
 rw [e];cases Ae (t.c=3) <;> cases FE t.i <;> cases Cp t 1 <;> cases G8 (V t 0) <;> rfl
def Oc(t:Nd):Bool:=(CX [2,6,4] t.c&&CD t) && !KO t
def O6(t:Nd):Bool :=
 bif Ae (t.c=2) then FE t.i&&t.b.all Ml
 else bif Ae (t.c=6) then MQ t&&Hj (V t 1)
 else bif Ae (t.c=4) then
  bif !FE t.i || !Cp t 3 then false else (((Ae ((V t 0).c=5)&&DS (V t 0))&&(V t 0).b.all Ml)&&(Hj (V t 1) || G8 (V t 1)))&&El (V t 2)
 else false
theorem bQ{t:Nd}:(Hx t (CX [3])&&t.b.all CD)=t.b.all Ml:=by
 rw [QR];congr 1;funext k;rw [Ki];rfl
theorem yM(t:Nd):((Ae (t.c=5)&&DS t)&&t.b.all Ml)=(CX [5] t.c&&CD t):=by
 rw [Ki];by_cases h:t.c=5;rw [Je t,IZ,Hw,Ex,h,Ap];exact congrArg (true && ·) (by rw [← bQ,← Ap];rfl);rw [Aq h];rfl
theorem nX(t:Nd):O6 t=Oc t:=by
 rw [O6,Oc];by_cases h:t.c=2;rw [Je t,IZ,Hw,Ex,KO,h];refine Eq.trans (b:=(FE t.i&&Hx t (CX [3]))&&t.b.all CD) ?_ (Eq.trans (Hf _).symm U);rw [Ap (FE t.i) (Hx t _),bQ];rfl;by_cases h1:t.c=6;rw [MQ,KO,h1];refine Eq.trans (b:=CD t&&Hj (V t 1)) U (Eq.trans (b:=CD t && !(!Cp t 2 || !Ae ((V t 1).c=9))) ?_ U);rw [O8]
 cases hp:CD t with
 | false=>rfl
 | true =>
  have hl:=Qw (.inr h1) hp
  have hk:CD (V t 1)=true:=by
   rw [Je,Cr,BM] at hp;rw [D6 O];exact hp.2 _ (AN _)
  rw [hk,show Cp t 2=true by rw [Cp,BQ];omega];cases Ae ((V t 1).c=9) <;> rfl
 by_cases h2:t.c=4;rw [yM,Je t,IZ,Hw,Ex,KO,h2];refine Eq.trans (b:=bif !FE t.i || !Cp t 3 then false else ((CX [5] (V t 0).c&&CD (V t 0))&&(Hj (V t 1) || G8 (V t 1)))&&El (V t 2)) U (Eq.trans (b:=(FE t.i&&Fa t [CX [5],fun k=>Il k || CX [9] k,CX [10]])&&t.b.all CD) ?_ (Eq.trans (Hf _).symm U));rw [TZ,Ap (FE t.i) (Fa t _),Vt,O8,SJ,SS,El,Ki 9,Ki 10];ac_rfl;simp only [CX,List.mem_cons,List.not_mem_nil,h,h1,h2,decide_false,or_false,A0,FB]
theorem Xs(l:List Nd)(p:Option Addr)(c:Nat)(D:Nat→Prop)(w:Ad)(hk:Bo w D l (.slice p l.length c))(aj:l.length≤1000000):Bx Aj 58 #[.slice p l.length c] w fun r w'=>r = .bool (l.all Ml)∧G w w':=by
 have g:=G.refl w;obtain ⟨p',c',hpe,_,ag⟩:=hk;injection hpe with hpe _ ah;subst hpe ah;refine JW (m:=45) Tryz.func58 U U [(0,True,_)] (K U (Bm _)) ?_;refine Ao (Ay (BO U (Al (kq (Ao (Ao (Ay (BO U (Al (kq (DY (GZ (fun (i:Nat) u1=>(i≤l.length∧∀ j,(h:j<l.length)→j<i→Ml l[j]=true)∧G w u1) [(0,True,_)] (fun (i:Nat)=>[(3,True,.int .i64 i)]) (fun (i:Nat)=>l.length-i) (0) ⟨⟨Bh _,fun j _ hj=>absurd hj (CQ j)⟩,G.refl _⟩ (K U (K U (Bm _))) ?_))))))))))));rintro i u1 ⟨ac,aa⟩;have g:=g.trans aa;refine Ao (Ao (Ay (As U (As U (ED AB U (G2 U U (Al (kq (CB U (fun h1=>?_) (fun h1=>?_))))))))));have h1:i<l.length:=by simp only [BQ] at h1;omega
 obtain ⟨b,o,rfl,hD,xs,hR,hX⟩:=ag O;obtain ⟨p',c',hcell,ab⟩:=I9 hR hX h1;obtain ⟨p3,c3,ad⟩:=SU ab 0;refine CU (kq (Ao (DY (Ao (Ay (As U (As U (Hh AB U U O (AF FK U (AL Cd U ((hcell.a g) 0 _ U) (MU U U (As U (AD U U U (fun _=>A9 (H U)) (AD U U U (fun _=>A9 (H U)) (AD U U U (fun _=>JH AB (Am U id) (Am U id) (fun _=>O)) (AD U U U (fun _=>AE E6 (Am U id)) (?_)))))))))))))))));refine BU U U U (AU DU (Am U id) (fun _=>(hcell.a g) 1 _ U)) (E9 U U U (fun _=>(BK S9 Cf (Cu (Am U id) (CY)) U)) (fun hc=>M2 _ _) (fun ai ae=>?_));have g:=g.trans ae;have aa:=aa.trans (ae);refine AD U U U (fun _=>Nl (Am U id)) (AG U (fun _=>Gv (H U) (Am U id)) (As U (AD U U U (fun _=>A9 (H U)) (AD U U U (fun _=>A9 (H U)) (AD U U U (fun _=>JH AB (Am U id) (Am U id) (fun _=>O)) (AD U U U (fun _=>AE AW (Am U id)) (BU U U U (AU Bj (Am U id) (fun _=>(hcell.a g) 4 _ U)) (AD U U U (fun _=>LP AB (Am U id)) (AD U U U (fun _=>KP (Am U id) Bl) (AG U (fun _=>Gv (H U) (Am U id)) (As U (AD U U U (fun _=>A9 (H U)) (AD U U U (fun _=>A9 (H U)) (AD U U U (fun _=>JH AB (Am U id) (Am U id) (fun _=>O)) (AD U U U (fun _=>AE AW (Am U id)) (?_))))))))))))))))
 refine BU U U U (AU Bj (Am U id) (fun _=>(hcell.a g) 4 _ U)) (AD U U U (fun _=>CS AB (Am U id) Bl (fun hc=>FO (hc.2)) (fun hc=>(ad Es).1)) (BU U U U (A2 A3 (Am U id) U (fun hc=>(ad Es).2.1.a g)) (E9 U U U (fun _=>(BK ZJ Cf (Cu (Am U id) (CY)) U)) (fun hc=>Tv _ _ _ _) (fun ak af=>?_))));have g:=g.trans af;have aa:=aa.trans (af);refine Az (fun h2=>?_) fun h2=>?_;have h2:Ml l[i]=false:=by simpa using (aY _).trans h2
 refine Cw ?_;rw [eq_comm,CW];exact ⟨_,AN h1,by rw [h2];simp⟩;have h2:Ml l[i]=true:=by simpa using (aY _).trans h2
 refine R ?_;refine BL [3,0] ?_;refine Al (fun a ha=>?_);refine ⟨i+1,ha,⟨⟨h1,fun j h hj=>?_⟩,aa⟩,O⟩;by_cases e:j=i;subst e;exact h2;exact ac.2 j h O;refine Cw ?_;rw [eq_comm,BM];intro x hx;obtain ⟨j,hj,rfl⟩:=Dv hx;exact ac.2 j hj (by simp only [CK] at h1;omega)
theorem Aac(t:Nd)(p:Option Addr)(c:Nat)(D:Nat→Prop)(w:Ad)(hk:Bo w D t.b (.slice p t.b.length c))(aq:count t≤1000000):Bx Aj 40 #[BV t (.slice p t.b.length c)] w fun r w'=>r = .bool (Oc t)∧G w w':=by
 rw [← nX];have g:=G.refl w;have ay:=Ej t;have ih:KJ t:=fun k hk=>yL k O;obtain ⟨p1,c1,ag⟩:=MA hk ih 1;refine Cj 77 [0] Tryz.func40 ?_;refine CN fun _ _ _ _ g E=>?_;refine Az (fun h1=>?_) fun h1=>?_;(try simp only [BJ] at h1);refine R ?_;refine DA (M2 _ _) (Do fun av g10 g E=>?_);refine R ?_;refine F4 (fun hc=>Xs _ _ _ D _ (hk.a g) O) (Do fun az ar g E=>?_);refine Cw ?_;unfold O6;simp only [h1,A8,A0] <;> rfl
 refine Az (fun h2=>?_) fun h2=>?_;have af:t.c=6:=by simpa using h2
 refine R ?_;refine DA (cU t _ _ D _ (hk.a g) ih) (Do fun a2 a5 g E=>?_);refine R ?_;refine AD U U U (fun _=>CS AB (Am U id) Bl (fun hc=>by have:=Qw (.inr af) (DF.1 hc.2).2;omega) (fun hc=>(ag (by have:=Qw (.inr af) (DF.1 hc.2).2;omega)).1)) (BU U U U (A2 A3 (Am U id) U (fun hc=>(ag (by have:=Qw (.inr af) (DF.1 hc.2).2;omega)).2.1.a g)) (F4 (fun hc=>Qe _ _ _ _) (fun a1 ai=>?_)));have g:=g.trans ai;replace E:=E.a ai;refine Cw ?_;unfold O6;simp only [h1,h2,A8,A0] <;> rfl
 refine Az (fun h3=>?_) fun h3=>?_;(try simp only [BJ] at h3);refine Ao (Ao (Ay (AF E6 U (AL DU U (E.E.j U) (F1 U (BK S9 Cf (CF U CT) U) (M2 _ _) (fun aw an=>?_))))));have g:=g.trans an;replace E:=E.a an;refine TV U (As U (AD U U U (fun _=>AE AW (H U)) (BU U U U (AU Bj (Am U id) (fun _=>E.E.j U)) (AD U U U (fun _=>LP AB (Am U id)) (AD U U U (fun _=>KP (Am U id) Bl) (AG U (fun _=>Gv (H U) (Am U id)) (Al (kq (CB U (fun h4=>?_) (fun h4=>?_))))))))));have h4:(!FE t.i || !Cp t 3)=true:=h4;refine Ao (Ay (BO U (Al (kq (DZ (FJ U U ?_))))));refine ⟨Ib ?_,g⟩;unfold O6;simp only [h1,h2,h3,h4,A8,A0] <;> rfl
 have h4:(!FE t.i || !Cp t 3)=false:=h4;have a4:t.b.length=3:=by simp only [Cp,F9,Bool.not_eq_false',BQ] at h4;omega
 obtain ⟨hpe,p0,c0,ac,ae⟩:=Ba hk (i:=0) O;obtain ⟨_,p2,c2,ab,ad⟩:=Ba hk (i:=2) O;obtain ⟨_,aa,ap,ax⟩:=ag O;have ao:=ih.ba (i:=2) O;have ah:=Y1 aq 0;refine CU (kq (Ao (Ay (AF AW U (AL Bj U (E.E.j U) (Dn AB U U O hpe (CH A3 U U (ac.a g) (A1 fun _ _ _ _ g E=>?_))))))));refine AS fun _ _ _ g E=>?_;refine Al (kq (Ao (Ay (AF FK U (AL Cd U (E.E.j U) (FM U U (As U (AD U U U (fun _=>AE E6 (H U)) (BU U U U (AU DU (Am U id) (fun _=>E.E.j U)) (AD U U U (fun _=>QC (Am U id) Bl) (AG U (fun _=>ES (H U) (Am U id)) (As U (AD U U U (fun _=>AE AW (H U)) (BU U U U (AU Bj (Am U id) (fun _=>E.E.j U)) (E9 U U U (fun _=>(BK tM Cf (Cu (Am U id) (CY)) U)) (fun hc=>Xs _ _ _ D _ (ae.a g) ah) (fun a6 ak=>?_))))))))))))))));have g:=g.trans ak;replace E:=E.a ak;refine AG U (fun _=>ES (H U) (Am U id)) (As U (AD U U U (fun _=>AE AW (H U)) (BU U U U (AU Bj (Am U id) (fun _=>E.Q.j U)) (AD U U U (fun _=>CS AB (Am U id) Bl (fun _=>O) (fun _=>hpe)) (BU U U U (A2 A3 (Am U id) U (fun _=>aa.a g)) (E9 U U U (fun _=>(BK UH Cf (Cu (Am U id) (CY)) U)) (fun hc=>Qe _ _ _ _) (fun a0 aj=>?_)))))));have g:=g.trans aj;replace E:=E.a aj
 refine AD U U U (fun _=>A9 (Am U id)) (AD U U U (fun _=>AE AW (H U)) (BU U U U (AU Bj (Am U id) (fun _=>E.Q.j U)) (AD U U U (fun _=>CS AB (Am U id) Bl (fun _=>O) (fun _=>hpe)) (BU U U U (A2 A3 (Am U id) U (fun _=>aa.a g)) (E9 U U U (fun _=>(BK ZJ Cf (Cu (Am U id) (CY)) U)) (fun hc=>Tv _ _ _ _) (fun au al=>?_))))));have g:=g.trans al;replace E:=E.a al;refine AD U U U (fun _=>Gv (Am U id) (Am U id)) (AG U (fun _=>ES (H U) (Am U id)) (As U (AD U U U (fun _=>AE AW (H U)) (BU U U U (AU Bj (Am U id) (fun _=>E.Q.j U)) (AD U U U (fun _=>CS AB (Am U id) Bl (fun _=>O) (fun _=>hpe)) (BU U U U (A2 A3 (Am U id) U (fun _=>ab.a g)) (E9 U U U (fun _=>(BK PL Cf (Cu (Am U id) (CY)) U)) (fun hc=>ao.bl _ _ D _ (ad.a g)) (fun a3 am=>?_))))))));have g:=g.trans am;replace E:=E.a am;refine Cw ?_;unfold O6;simp only [h1,h2,h3,h4,A8,A0] <;> rfl
 refine Cw ?_;unfold O6;simp only [h1,h2,h3,A8,A0] <;> rfl
theorem XG:∀ (t:Nd) (v:Ak) (D:Nat→Prop) (w:Ad),Bo w D t.b v→count t≤4000000→Bx Aj 21 #[BV t v] w fun r w'=>r = .int .i64 (HH t:Nat)∧G w w':=by
 refine Nd.ao fun t ih v D w hk am=>?_;obtain ⟨p,c,rfl,ah,ae⟩:=hk;have g:=G.refl w;have ag:=Ej t;have aj:=yY t;have af:=Uc t
 have ad:∀ i,L8 ((t.b.take i).map HH)≤L8 (t.b.map HH):=fun i=>by
  rw [TU];intro x hx;rw [List.map_take] at hx;exact (TU _ _).1 (HN _) x (Jm hx)
 refine Cj 22 [0] Tryz.func21 ?_;refine CN fun _ w1 _ _ g E=>?_;refine BO U (Al (kq (Ao (Ay (BO U (Al (kq (Ao (Ao (Ay (BO U (Al (kq (DY (GZ (fun (i:Nat) u1=>(i≤t.b.length)∧G w1 u1) [(1,True,_),(2,True,_)] (fun (i:Nat)=>[(3,True,.int .i64 ((L8 ((t.b.take i).map HH):Nat):Int)),(4,True,.int .i64 i)]) (fun (i:Nat)=>t.b.length-i) (0) ⟨by simp,G.refl _⟩ (K U (K U (K U (K U (Bm _))))) ?_)))))))))))))));rintro i u1 ⟨ai,aa⟩;have g:=g.trans aa;replace E:=E.a aa;refine Ao (Ao (Ay (As U (AF AW U (AL Bj U (E.E.j U) (ED AB U (G2 U U (Al (kq (CB U (fun h1=>?_) (fun h1=>?_)))))))))));have h1:i<t.b.length:=by simp only [BQ] at h1;omega
 obtain ⟨b,o,rfl,hD,xs,hR,hX⟩:=ae O;obtain ⟨p',c',hcell,ab⟩:=I9 hR hX h1;have al:=J5 h1;refine CU (kq (Ao (DY (JZ [3,3,0,3,3,0,1,3,3] (As U (AF AW U (AL Bj U (E.E.j U) (As U (Hh AB U U O (CH A3 U U (hcell.a g) (F1 U (BK jO Cf (CF U CT) U) (ih _ (AN h1) _ _ _ (ab.a g) O) (fun ak ac=>?_))))))))))));have aa:=aa.trans (ac);replace E:=E.a ac;refine AG U (fun _=>pT (H U) (H U)) (BO U (Al (kq (Ay (As U (IB U U O (BO U (FD [(3,_,_),(4,_,_),(1,_,_),(2,_,_)] (K U (K U (K U (K U (Bm _))))) (Al (fun a ha=>?_))))))))));rw [zG,show max (L8 ((t.b.take i).map HH)) (HH t.b[i])=L8 ((t.b.take (i+1)).map HH) by rw [WV HH t.b i h1,L8,L8,List.foldl_append];rfl] at ha;exact ⟨i+1,ha,⟨h1,aa⟩,O⟩;have h1:i=t.b.length:=by simp only [CK] at h1;omega
 have hp:=ad i;refine AC ?_;refine ⟨?_,g⟩;rw [h1,List.take_length,af];rfl
theorem tZ(t:Nd):(bif (!Ae (t.c=1) || !DS t) || Ae ((50:Int)<(HH t:Nat)) then false else t.b.all Oc)=IL t:=by
 rw [IL,LC];by_cases h:t.c=1;rw [Je,IZ,Hw,Ex,h];refine Eq.trans (b:=bif !DS t || Ae ((50:Int)<(HH t:Nat)) then false else t.b.all Oc) U (Eq.trans (b:=((DS t&&(!(t.b.any KO)&&Hx t (CX [2,6,4])))&&t.b.all CD)&&Ae (HH t≤50)) ?_ U)
 have e1:Ae ((50:Int)<(HH t:Nat)) = !Ae (HH t≤50):=by
  rw [← decide_not,decide_eq_decide];omega
 have e2:t.b.all Oc=((!(t.b.any KO)&&Hx t (CX [2,6,4]))&&t.b.all CD):=by
  rw [Ap,QR,FS];simp only [Cr,BM,Oc,Bool.not_eq_true',List.any_eq_false];constructor;intro h;exact ⟨fun k hk=>by rw [(h k hk).2];simp,fun k hk=>(h k hk).1⟩;rintro ⟨h1,h2⟩ k hk;exact ⟨h2 k hk,by simpa using h1 k hk⟩
 rw [e1,TZ,e2];ac_rfl;rw [Aq h];rfl
theorem sI(t:Nd)(v:Ak)(D:Nat→Prop)(w:Ad)(hk:Bo w D t.b v)(am:count t≤1000000):Bx Aj 25 #[BV t v] w fun r w'=>r = .bool (IL t)∧G w w':=by
 rw [← tZ];obtain ⟨p,c,rfl,af,ah⟩:=hk;have ae:Bo w D t.b (.slice p t.b.length c):=⟨p,c,rfl,af,ah⟩;have g:=G.refl w;have aj:=Ej t;refine Cj 31 [0] Tryz.func25 ?_;refine CN fun _ _ _ _ g E=>?_;refine R ?_;refine F4 (fun hc=>XG t _ D _ (ae.a g) O) (Do fun ag ai g E=>?_);refine Az (fun h1=>?_) fun h1=>?_;have h1:((!Ae (t.c=1) || !DS t) || Ae ((50:Int)<(HH t:Nat)))=true:=h1;refine Cw ?_;rw [h1];rfl;have h1:((!Ae (t.c=1) || !DS t) || Ae ((50:Int)<(HH t:Nat)))=false:=h1;refine R ?_;refine GZ (fun (i:Nat) u1=>(i≤t.b.length∧∀ j,(h:j<t.b.length)→j<i→Oc t.b[j]=true)∧G ag u1) [(1,True,_)] (fun (i:Nat)=>[(3,True,.int .i64 i)]) (fun (i:Nat)=>t.b.length-i) (0) ⟨⟨Bh _,fun j _ hj=>absurd hj (CQ j)⟩,G.refl _⟩ (K U (K U (Bm _))) ?_;rintro i u1 ⟨ad,aa⟩;have g:=g.trans aa;replace E:=E.a aa;refine Az (fun h2=>?_) fun h2=>?_;have h2:i<t.b.length:=by simp only [BQ] at h2;omega
 obtain ⟨hpe,p2,c2,hcell,ac⟩:=Ba ae h2;have al:=Hd h2;refine R ?_;refine DA (Aac _ _ _ D _ (ac.a g) O) (fun ak ab=>?_);have g:=g.trans ab;have aa:=aa.trans (ab);replace E:=E.a ab;refine Az (fun h3=>?_) fun h3=>?_;(try simp only [BJ] at h3);refine Cw ?_;rw [h1,A0,eq_comm,CW];exact ⟨_,AN h2,by rw [← D6 h2];simpa using h3⟩;refine R ?_;refine BL [3,1] ?_;refine Al (fun a ha=>?_);refine ⟨i+1,ha,⟨⟨h2,fun j h hj=>?_⟩,aa⟩,O⟩;by_cases e:j=i;subst e;rw [← D6 h2];simpa using h3;exact ad.2 j h O;refine Cw ?_;rw [h1,A0,eq_comm,BM];intro x hx;obtain ⟨j,hj,rfl⟩:=Dv hx;exact ad.2 j hj (by simp only [CK] at h2;omega)
def Mr(t:Nd):Bool:=Ae (t.c=24) || Ae (t.c=25)
theorem gE(t:Nd)(p:Option Addr)(c:Nat)(w:Ad):Bx Aj 39 #[BV t (.slice p t.b.length c)] w fun v w'=>v = .bool (Mr t)∧G w w':=by
 have g:=G.refl w;refine Cj 11 [0] Tryz.func39 ?_;refine CN fun _ _ _ _ g E=>?_;refine AC ?_;exact ⟨rfl,g⟩
def S7(a b:Nd):Bool:=Ae ((a.b.length:Int)=b.b.length)
def Pv(q:Nd→Nd→Bool)(a:Nd):Nd→Bool:=Iq (fun a l b=>q a b&&(Ei a.b.length).all fun i=>(l.getD i fun _=>false) (V b i)) a
theorem sK{n:Nat}{f h:Nat→Bool}(e:∀ i,i<n→f i=h i):(Ei n).all f=(Ei n).all h:=by
 rw [FS,BM,BM];exact ⟨fun k i hi=>(e i (EG.1 hi))▸k i hi,fun k i hi=>(e i (EG.1 hi)).symm▸k i hi⟩
theorem iT(q:Nd→Nd→Bool)(a b:Nd):Pv q a b=(q a b&&(Ei a.b.length).all fun i=>Pv q (V a i) (V b i)):=by
 rw [Pv,Lh];refine congrArg (q a b && ·) (sK fun i hi=>?_)
 have:(a.b.map (Pv q)).getD i (fun _=>false)=Pv q (V a i):=by
  rw [D6 hi];simp [Cl,Eb hi]
 exact congrFun this (V b i)
theorem zC{a b:Nd}:S7 a b=true↔a.b.length=b.b.length:=by rw [S7,BQ];omega
def Xn(a b:Bu):Bool:=Ae (a.c=b.c)&&(Ae (a.name=b.name)&&true)
def NF(a b:Nd):Bool:=((((((Ae (a.c=b.c)&&Ae (a.i=b.i))&&Ae (a.num=b.num))&&Ae (a.m=b.m))&&Xn a.ty b.ty)&&Ae (a.ref=b.ref))&&Ae (a.up=b.up))&&S7 a b
theorem X1(a b:Nd):(!NF a b)=(((((((!Ae (a.c=b.c) || !Ae (a.i=b.i)) || !Ae (a.num=b.num)) || !Ae (a.m=b.m)) || !Xn a.ty b.ty) || !Ae (a.ref=b.ref)) || !Ae (a.up=b.up)) || !S7 a b):=by
 unfold NF;simp only [Bool.not_and]
def O3(a b:Nd):Bool:=Pv NF a b
theorem pP(a b:Nd):O3 a b=(NF a b&&(Ei a.b.length).all fun i=>O3 (V a i) (V b i)):=iT NF a b
theorem nT{a b:Nd}(h:NF a b=true):a.b.length=b.b.length:=by
 unfold NF at h;rw [Cr] at h;exact zC.1 h.2
theorem XC:∀ (a:Nd) (va:Ak) (D:Nat→Prop) (b:Nd) (vb:Ak) (D':Nat→Prop) (w:Ad),Bo w D a.b va→Bo w D' b.b vb→count a≤1000000→Bx Aj 10 #[BV a va,BV b vb] w fun r w'=>r = .bool (O3 a b)∧G w w':=by
 refine Nd.ao fun a ih va D b vb D' w ap ar ax=>?_;obtain ⟨pa,ca,rfl,ah,an⟩:=ap;have ak:Bo w D a.b (.slice pa a.b.length ca):=⟨pa,ca,rfl,ah,an⟩;obtain ⟨am,cb,rfl,ag,al⟩:=ar;have ai:Bo w D' b.b (.slice am b.b.length cb):=⟨am,cb,rfl,ag,al⟩;have g:=G.refl w;have av:=Ej a;rw [pP];refine Cj 81 [0,1] Tryz.func10 ?_;refine CN fun _ _ _ _ g E=>?_;refine LU fun _ w3 _ _ g E=>?_;refine Az (fun h1=>?_) fun h1=>?_;have h1:NF a b=false:=by simpa using (X1 a b).trans h1
 refine AC ?_;rw [h1];exact ⟨rfl,g⟩;have h1:NF a b=true:=by simpa using (X1 a b).trans h1
 have hl:=nT h1;refine R ?_;refine GZ (fun (i:Nat) u1=>(i≤a.b.length∧∀ j,j<i→O3 (V a j) (V b j)=true)∧G w3 u1) [(2,True,_),(3,True,_)] (fun (i:Nat)=>[(5,True,.int .i64 i)]) (fun (i:Nat)=>a.b.length-i) (0) ⟨⟨Bh _,fun j hj=>absurd hj (CQ j)⟩,G.refl _⟩ (K U (K U (K U (Bm _)))) ?_;rintro i u1 ⟨aj,aa⟩;have g:=g.trans aa;replace E:=E.a aa;refine Az (fun h2=>?_) fun h2=>?_;have h2:i<a.b.length:=by simp only [BQ] at h2;omega
 obtain ⟨ao,p1,c1,ac,af⟩:=Ba ak h2;obtain ⟨aq,p2,c2,ab,ad⟩:=Ba ai (i:=i) O;have aw:=Hd h2;refine R ?_;refine C9 [3,0,3,3,0,3,0,3,3,0,1,3] ?_;have g:=Ho g;have aa:=aa.trans (G.drew _);replace E:=E.dr;refine AF AW U (AL Bj U (E.Q.j U) (As U (Dn AB U U O ao (CH A3 U U (ac.a g) (AF AW U (AL Bj U (E.E.j U) (As U (Dn AB U U O aq (CH A3 U U (ab.a g) (F1 U (BK xJ Cf (CF U (CF U CT)) U) (ih _ (D6 h2▸AN h2) _ D _ _ D' _ (af.a g) (ad.a g) O) (fun au ae=>?_)))))))))));have g:=g.trans ae;have aa:=aa.trans (ae);replace E:=E.a ae;refine Az (fun h3=>?_) fun h3=>?_;(try simp only [BJ] at h3);refine Cw ?_;rw [h1,Fe,eq_comm,CW];exact ⟨i,EG.2 h2,by simpa using h3⟩;refine R ?_;refine BL [5,2,3] ?_;refine Al (fun a ha=>?_);refine ⟨i+1,ha,⟨⟨h2,fun j hj=>?_⟩,aa⟩,O⟩;by_cases e:j=i;subst e;simpa using h3;exact aj.2 j O;refine Cw ?_;rw [h1,Fe,eq_comm,BM];intro j hj;exact aj.2 j (by have:=EG.1 hj;simp only [CK] at h2;omega)
def HG(t:Nd):Int:=bif Mr t then t.num else 0
def Et(t:Nd):Nd:=Iq (fun t l=>.mk t.c t.i (HG t) 0 l AA 0 0) t
theorem PF(t:Nd):Et t = .mk t.c t.i (HG t) 0 (t.b.map Et) AA 0 0:=Lh _ t
def Dx(t:Nd):Nd:=Iq (fun t l=>.mk t.c t.i (HG t) t.m l AA 0 0) t
theorem WB(t:Nd):Dx t = .mk t.c t.i (HG t) t.m (t.b.map Dx) AA 0 0:=Lh _ t
theorem tK(t:Nd):(Et t).b.length=t.b.length:=by rw [PF,Nd.b,List.length_map]
theorem RO(t:Nd)(v:Ak):Cs (Et t) v=[.int .i64 t.c,Co t.i,.int .i64 (HG t),.int .i64 0,v,.int .i64 0,Co [],.int .i64 0,.int .i64 0]:=by rw [PF];rfl
theorem VX(t:Nd)(v:Ak):Cs (Dx t) v=[.int .i64 t.c,Co t.i,.int .i64 (HG t),.int .i64 t.m,v,.int .i64 0,Co [],.int .i64 0,.int .i64 0]:=by rw [WB];rfl
theorem PK(t:Nd):(Et t).b=t.b.map Et:=by rw [PF];rfl
theorem Tf(t:Nd):(Dx t).b=t.b.map Dx:=by rw [WB];rfl
theorem aS{t:Nd}{base:Nat}{v:Ak}{w:Ad}(h:Bo w (fun b=>base≤b) t.b v):Vj t base (BV t v) w:=by
 obtain ⟨p,c,rfl,h2⟩:=h;exact ⟨p,c,rfl,p,c,rfl,h2⟩
structure DD where
  name:List UInt8
  typ:Bu
  num:Nat
  n:Nat
  k:Nat
def JB(v:DD):List Ak:=[Co v.name,.int .i64 v.typ.c,Co v.typ.name,.int .i64 v.num,.int .i64 v.n,.int .i64 v.k]
structure An where
  q:List DD
  k:Nat
  n:Nat
  next:List Nat
  o:Bu
  ea:Int
  ee:Int
def DI(a e:Int)(S:An):An:=bif Ae (S.ee=0) then { S with ea:=a,ee:=e } else S
def AH(b:Bool)(a e:Int)(S:An):An:=bif b then S else DI a e S
def DN(t:Nd):Nd:=.mk t.c t.i (HG t) t.m [] AA 0 0
def AJ(t:Nd)(ks:List Nd)(y:Bu):Nd:=.mk t.c t.i (HG t) t.m ks y 0 0
def GC(kd:Int)(s:List UInt8):List Nd→Nat→Nd×Int
 | [],_=>(EN,-1)
 | d::l,k=>bif Ae (d.c=kd) then (bif Ae (d.i=s) then (d,(k:Int)) else GC kd s l (k+1)) else GC kd s l k
def Bk(F:Nd)(kd:Int)(s:List UInt8):Nd×Int:=GC kd s F.b 0
def IX(F n:Nd)(S:An):An:=bif Ae (n.c=8) then AH (!Ae ((Bk F 2 n.i).2<0)) n.m 5 S else S
def D0(F n:Nd)(S:An):An:=AH (E7 (BF n).1) n.m 7 (IX F n S)
def Ee(S:An):An:={ S with k:=S.k+1 }
def Jv(sc:Nat)(l:List DD):List DD:=(l.reverse.dropWhile fun v=>Ae (v.k=sc)).reverse
def IP(S:An):An:={ S with q:=Jv S.k S.q,k:=S.k-1 }
def Ku(S:An)(name:List UInt8):Bool:=S.q.any fun v=>Ae (v.k=S.k)&&Ae (v.name=name)
def Ed(S:An):Nat:=S.next.getD S.n 0
def GF(name:List UInt8)(y:Bu)(a:Int)(S:An):An :=
 let S1:=AH (!Ku S name) a 6 S
 { S1 with next:=S.next.set S.n (Ed S+1),q:=S.q++[⟨name,y,Ed S,S.n,S.k⟩] }
def Fc(l:List DD)(s:List UInt8):Option DD:=l.reverse.find? fun v=>Ae (v.name=s)
def Kk(d:Nd):Bu:=bif Ae (((V d 0).b.length:Int)=0)&&Ae ((V d 1).c=9) then tFunc else AA
def CE(F:Nd)(S:An)(n:Nd):Nd×Bool :=
 match Fc S.q n.i with
 | some v=>(.mk n.c n.i v.num n.m [] v.typ 1 ((S.n:Int)-v.n),true)
 | none =>
  bif Ae (0≤(Bk F 6 n.i).2) then (.mk n.c n.i (Bk F 6 n.i).2 n.m [] (BF (V (Bk F 6 n.i).1 0)).1 2 0,true)
  else bif Ae (0≤(Bk F 4 n.i).2) then (.mk n.c n.i (Bk F 4 n.i).2 n.m [] (Kk (Bk F 4 n.i).1) 3 0,true)
  else (DN n,false)
structure GT where
  ex:An→Nd×An
  w:An→(Nd×Bool)×An
  rcv:An→Nd×Bool
  s:An→(Nd×List Bu×Bu)×An
  st:An→Nd×An
  p:An→Nd×An
  ifs:An→Nd×An
  u:An→Nd×An
  cas:Bool→An→Nd×An
def PB:GT:=⟨fun S=>(EN,S),fun S=>((EN,false),S),fun _=>(EN,false),fun S=>((EN,[],AA),S),fun S=>(EN,S),fun S=>(EN,S),fun S=>(EN,S),fun S=>(EN,S),fun _ S=>(EN,S)⟩
def DG(x:Nd)(k a:Int)(S:An):An:=AH (Ae (x.ty.c=k)) a 7 S
section
variable (F n:Nd) (x:Nat→GT)
def Ew(S:An):(Nd×Bool)×An :=
 let a:=(x 0).ex S
 bif Ae (a.1.ty.c=4) then
  match (Gf F a.1.ty.name).1.find? fun f=>Ae (f.name=n.i) with
  | some f=>((AJ n [a.1] f.ty,true),a.2)
  | none=>((AJ n [a.1] AA,false),DI n.m 5 a.2)
 else ((AJ n [a.1] AA,false),DI n.m 7 a.2)
def Hp(S:An):Nd×Bool :=
 bif Ae (n.c=27) then ((CE F S n).1,((CE F S n).2&&Ae ((CE F S n).1.ref=2))&&Ae (8≤(CE F S n).1.ty.c))
 else bif Ae (n.c=28) then ((Ew F n x S).1.1,((Ew F n x S).1.2&&Ae ((Ew F n x S).2.ee=0))&&Ae (8≤(Ew F n x S).1.1.ty.c))
 else (EN,false)
def Eo(ps:List Bu)(S:An):Nat→List Nd×An
 | 0=>([],S)
 | i+1 =>
  let a:=Eo ps S i
  let e:=(x (i+1)).ex a.2
  (a.1++[e.1],AH (!(Ae (i<ps.length) && !EL (ps.getD i AA) e.1.ty)) (V n (i+1)).m 7 e.2)
def I3(S:An):Nd×An :=
 let c:=(x 0).s S
 let a:=Eo n x c.1.2.1 (AH (Ae ((n.b.length:Int)-1=c.1.2.1.length)) n.m 7 c.2) (n.b.length-1)
 (AJ n (c.1.1::a.1) c.1.2.2,a.2)
def Fj(S:An):An:={ S with o:=AA,n:=S.n+1,next:=S.next.take (S.n+1)++[0] }
def NP(S:An):Nd×An :=
 let b:=(x 0).p (Fj S)
 (AJ n [b.1] tFunc,{ b.2 with n:=b.2.n-1,o:=S.o })
def KG:Bu:=bif Ae (n.i=[33]) then tBool else tInt
def FC(S:An):Nd×An :=
 let a:=(x 0).ex S
 bif Ae (n.c=29) then
  let b:=(x 1).ex (DG a.1 5 (V n 0).m a.2)
  (AJ n [a.1,b.1] tInt,DG b.1 1 (V n 1).m b.2)
 else bif Ae (n.c=31) then (AJ n [a.1] (KG n),DG a.1 (KG n).c n.m a.2)
 else bif Ae (n.c=32) then
  let b:=(x 1).ex a.2
  (AJ n [a.1,b.1] (Gm n.i a.1.ty b.1.ty).1,AH (Gm n.i a.1.ty b.1.ty).2 n.m 7 b.2)
 else bif Ae (n.c=33) then (AJ n [a.1] tInt,DG a.1 6 n.m a.2)
 else bif Ae (n.c=37) then (AJ n [a.1] tInt,DG a.1 5 (V n 0).m a.2)
 else bif Ae (n.c=35) then (AJ n [a.1] ⟨5,[]⟩,DG a.1 1 (V n 0).m a.2)
 else bif Ae (n.c=36) then (AJ n [a.1] ⟨6,[]⟩,DG a.1 1 (V n 0).m a.2)
 else (AJ n [a.1] AA,a.2)
def Ek(S:An):Nd×An :=
 bif Ae (n.c=24) then (AJ n [] tInt,S)
 else bif Ae (n.c=25) then (AJ n [] tBool,S)
 else bif Ae (n.c=26) then (AJ n [] tNil,S)
 else bif Ae (n.c=38) then NP n x S
 else bif Ae (n.c=30) then I3 n x S
 else bif Ae (n.c=27) then ((CE F S n).1,bif (CE F S n).2 then AH (E7 (CE F S n).1.ty) n.m 7 S else DI n.m 5 S)
 else bif Ae (n.c=28) then ((Ew F n x S).1.1,AH (!((Ew F n x S).1.2 && !E7 (Ew F n x S).1.1.ty)) n.m 7 (Ew F n x S).2)
 else bif Ae (n.c=34) then (AJ n [] ⟨4,n.i⟩,AH (!Ae ((Bk F 2 n.i).2<0)) n.m 5 S)
 else FC n x S
def GS(S:An):Nd×An:=bif Ae ((V n 0).c=28) then (((x 0).w S).1.1,((x 0).w S).2) else (((x 0).rcv S).1,S)
def FR(S:An):(Nd×List Bu×Bu)×An :=
 bif Ae (n.c=28)&&((x 0).rcv S).2 then
  let r:=GS n x S
  ((AJ n [r.1] AA,(Dw r.1.ty n.i).1,(Dw r.1.ty n.i).2.1),AH (Dw r.1.ty n.i).2.2 n.m 5 r.2)
 else bif Ae (n.c=27)&&((CE F S n).2&&Ae ((CE F S n).1.ref=3)) then
  (((CE F S n).1,(V (Bk F 4 n.i).1 0).b.map (fun p=>(BF (V p 0)).1),(BF (V (Bk F 4 n.i).1 1)).1),S)
 else
  let a:=Ek F n x S
  ((a.1,[],AA),AH (BP a.1.ty tFunc) n.m 7 a.2)
def GQ(S:An):Nat→List Nd×An
 | 0=>([],S)
 | i+1 =>
  let a:=GQ S i
  let e:=(x i).st a.2
  (a.1++[e.1],e.2)
def PG(S:An):Nd×An:=(AJ n (GQ x S n.b.length).1 AA,(GQ x S n.b.length).2)
def Pt(S:An):Nd×An:=((PG n x (Ee S)).1,IP (PG n x (Ee S)).2)
def GJ(k:Nd)(y:GT)(S:An):Nd×An :=
 bif Ae (k.c=9) then (DN k,S) else ((y.ex S).1,DG (y.ex S).1 2 k.m (y.ex S).2)
def Jy(S:An):Nd×An :=
 let a:=GJ (V n 0) (x 0) S
 let b:=(x 1).p a.2
 let e:=bif Ae ((V n 2).c=10) then (x 2).p b.2 else bif Ae ((V n 2).c=18) then (x 2).ifs b.2 else (DN (V n 2),b.2)
 (AJ n [a.1,b.1,e.1] AA,e.2)
def KH(S:An):Nd×An :=
 let a:=(x 0).ex S
 let b:=(x 1).ex (AH (((Ae (a.1.c=27) && !Ae (a.1.ref=3)) || Ae (a.1.c=28)) || Ae (a.1.c=29)) (V n 0).m 7 a.2)
 (AJ n [a.1,b.1] AA,AH (EL a.1.ty b.1.ty) (V n 1).m 7 b.2)
def Oh(first:Bool)(S:An):Nd×An :=
 let a:=bif Ae ((V n 0).c=9) then (DN (V n 0),AH first n.m 6 (Ee S)) else (x 0).st (Ee S)
 let b:=(x 1).u a.2
 (AJ n [a.1,b.1] AA,IP b.2)
def CR(S:An):Nat→List Nd×Bool×An
 | 0=>([],true,S)
 | i+1 =>
  let a:=CR S i
  let e:=(x i).cas a.2.1 a.2.2
  (a.1++[e.1],a.2.1 && !Ae ((V (V n i) 0).c=9),e.2)
def QK(S:An):Nd×An:=(AJ n (CR n x S n.b.length).1 AA,(CR n x S n.b.length).2.2)
def JL(ks:List Nd)(k:Nat):Nd:=.mk n.c n.i k n.m ks AA 1 0
def Iv(S:An):Nd×An :=
 let a:=bif Ae ((V n 1).c=9) then (DN (V n 1),D0 F (V n 0) S) else (((x 1).ex (D0 F (V n 0) S)).1,AH (EL (BF (V n 0)).1 ((x 1).ex (D0 F (V n 0) S)).1.ty) (V n 1).m 7 ((x 1).ex (D0 F (V n 0) S)).2)
 (JL n [Dx (V n 0),a.1] (Ed a.2),GF n.i (BF (V n 0)).1 n.m a.2)
def My(S:An):Nd×An :=
 let a:=(x 0).ex S
 let S1:=AH (E7 a.1.ty) (V n 0).m 7 a.2
 (JL n [a.1] (Ed S1),GF n.i a.1.ty n.m S1)
def M3(S:An):Nd×An :=
 let a:=GJ (V n 0) (x 0) S
 let b:=(x 1).p a.2
 (AJ n [a.1,b.1] AA,b.2)
def Iu(S:An):Nd×An :=
 let S1:=AH (!Bool.xor (Ae ((n.b.length:Int)=1)) (!BP S.o AA)) n.m 7 S
 bif Ae ((n.b.length:Int)=1) then
  (AJ n [((x 0).ex S1).1] AA,AH (EL ((x 0).ex S1).2.o ((x 0).ex S1).1.ty) (V n 0).m 7 ((x 0).ex S1).2)
 else (AJ n [] AA,S1)
def DH(S:An):Nd×An :=
 bif Ae (n.c=10) then Pt n x S
 else bif Ae (n.c=18) then Jy n x S
 else bif Ae (n.c=12) then KH n x S
 else bif Ae (n.c=22) then QK n x S
 else bif Ae (n.c=6) then Iv F n x S
 else bif Ae (n.c=11) then My n x S
 else bif Ae (n.c=19) then M3 n x S
 else bif Ae (n.c=20) then Iu n x S
 else
  let a:=(x 0).ex S
  bif Ae (n.c=16) then
   let b:=(x 1).ex (DG a.1 6 (V n 0).m a.2)
   (AJ n [a.1,b.1] AA,DG b.1 1 (V n 1).m b.2)
  else bif Ae (n.c=17) then (AJ n [a.1] AA,DG a.1 6 (V n 0).m a.2)
  else bif Ae (n.c=21) then (AJ n [a.1] AA,AH (Ae (a.1.ty.c=1) || Ae (a.1.ty.c=2)) (V n 0).m 7 a.2)
  else (AJ n [a.1] AA,a.2)
end
def Pz(F t:Nd)(x:Nat→GT):GT:=⟨Ek F t x,Ew F t x,Hp F t x,FR F t x,DH F t x,Pt t x,Jy t x,PG t x,Oh t x⟩
def Ah(F t:Nd):GT:=Iq (fun t l=>Pz F t fun i=>l.getD i PB) t
def Ax(F t:Nd)(i:Nat):GT:=(t.b.map (Ah F)).getD i PB
theorem GL(F t:Nd):Ah F t=Pz F t (Ax F t):=Lh _ t
theorem Dz{F t:Nd}{i:Nat}(h:i<t.b.length):Ax F t i=Ah F (V t i):=by
 rw [Ax,D6 h];simp [Cl,Eb h]
def Dm(F p:Nd)(S:An):Nat→List Nd×An
 | 0=>([],S)
 | i+1 =>
  let a:=Dm F p S i
  let f:=V p i
  (a.1++[.mk f.c f.i (Ed a.2) f.m (f.b.map Dx) AA 1 0],D0 F (V f 0) (GF f.i (BF (V f 0)).1 f.m a.2))
def MY(t:Nd)(l:List (Bool×Bool)):Bool×Bool :=
 (bif Ae (t.c=20) then true
  else bif Ae (t.c=19) then Ae ((V t 0).c=9)
  else bif Ae (t.c=10) then (l.getLast?.getD (false,false)).1
  else bif Ae (t.c=18) then (l.getD 1 (false,false)).2&&((Ae ((V t 2).c=10)&&(l.getD 2 (false,false)).2) || (Ae ((V t 2).c=18)&&(l.getD 2 (false,false)).1))
  else false,(l.getLast?.getD (false,false)).1)
def Io(t:Nd):Bool×Bool:=Iq MY t
theorem M5(t:Nd):Io t=MY t (t.b.map Io):=Lh _ t
def Hy(l:List Nd):Bool:=((l.map Io).getLast?.getD (false,false)).1
theorem Rt(t:Nd):(Io t).2=Hy t.b:=by rw [M5];rfl
def De(S:An):An:={ S with q:=[],k:=0,n:=0,next:=[0] }
def Lm(F n:Nd)(S:An):An:={ (Dm F (V n 0) (De S) (V n 0).b.length).2 with o:=AA }
def Gr(F n:Nd)(S:An):An:=bif Ae ((V n 1).c=9) then Lm F n S else { D0 F (V n 1) (Lm F n S) with o:=(BF (V n 1)).1 }
def H5(F n:Nd)(S:An):Nd×An :=
 let b:=(Ah F (V n 2)).u (Gr F n S)
 (AJ n [AJ (V n 0) (Dm F (V n 0) (De S) (V n 0).b.length).1 AA,Dx (V n 1),b.1] AA,
  AH (Ae ((V n 1).c=9) || Hy (V n 2).b) n.m 7 b.2)
def Gd(n:Nd)(i:Nat):Bool:=(n.b.take i).any fun k=>Ae (k.i=(V n i).i)
def FV(n:Nd)(S:An):Nat→An
 | 0=>S
 | i+1=>AH (!Gd n i) (V n i).m 6 (FV n S i)
def HO(F n:Nd)(S:An):Nat→An
 | 0=>S
 | i+1=>IX F (V (V n i) 0) (AH (!Gd n i) (V n i).m 6 (HO F n S i))
def GU(F n:Nd)(S:An):Nd×An :=
 bif Ae (n.c=2) then (Dx n,HO F n S n.b.length)
 else bif Ae (n.c=6) then (Dx n,IX F (V n 0) S)
 else bif Ae (n.c=4) then H5 F n S
 else (Dx n,S)
def EH(F:Nd)(S:An):Nat→List Nd×An
 | 0=>([],S)
 | i+1 =>
  let a:=EH F S i
  let e:=GU F (V F i) a.2
  (a.1++[e.1],e.2)
def Ec:An:=⟨[],0,0,[],AA,0,0⟩
def Md(F:Nd)(S:An):An :=
 bif Ae ((Bk F 4 [109,97,105,110]).2<0) then DI 0 5 S
 else bif Ae (0<((V (Bk F 4 [109,97,105,110]).1 0).b.length:Int)) || !Ae ((V (Bk F 4 [109,97,105,110]).1 1).c=9) then DI (Bk F 4 [109,97,105,110]).1.m 7 S else S
def Gl(F:Nd):An:=Md F (EH F (FV F Ec F.b.length) F.b.length).2
def Oo(F:Nd):Nd:=AJ F (EH F (FV F Ec F.b.length) F.b.length).1 AA
def Fs(F:Nd):Nd×Int×Int :=
 bif IL F then (bif Ae ((Gl F).ee=0) then (Oo F,0,0) else (EN,(Gl F).ea,(Gl F).ee)) else (EN,0,1)
structure EQ (S:An) (N:Nat):Prop where
  vl:S.q.length≤N
  nl:S.next.length≤N+1
  nx:∀ k∈S.next,k≤N
  lv:S.n<S.next.length
  sc:S.k≤N
  vs:∀ v∈S.q,v.num≤N∧v.n≤N∧v.k≤N
theorem EQ.mono{S:An}{N M:Nat}(h:EQ S N)(hm:N≤M):EQ S M :=
 ⟨Dg h.vl hm,by have:=h.nl;omega,fun k hk=>Dg (h.nx k hk) hm,h.lv,Dg h.sc hm,fun v hv=>by have:=h.vs v hv;omega⟩
structure BZ (d:Nat) (S S':An):Prop where
  n:S'.n=S.n
  k:S'.k=S.k
  o:S'.o=S.o
  ers:S.ee≠0→S'.ee=S.ee∧S'.ea=S.ea
  bd:∀ N,EQ S N→EQ S' (N+d)
theorem BZ.refl(S:An):BZ 0 S S:=⟨rfl,rfl,rfl,fun _=>⟨rfl,rfl⟩,fun N h=>h⟩
theorem BZ.trans{a b:Nat}{S T j':An}(h:BZ a S T)(k:BZ b T j'):BZ (a+b) S j' :=
 ⟨k.n.trans h.n,k.k.trans h.k,k.o.trans h.o,fun he=>⟨(k.ers (by rw [(h.ers he).1];exact he)).1.trans (h.ers he).1,(k.ers (by rw [(h.ers he).1];exact he)).2.trans (h.ers he).2⟩,fun N hN=>by have:=k.bd _ (h.bd N hN);rwa [Nat.add_assoc] at this⟩
theorem BZ.mono{a b:Nat}{S T:An}(h:BZ a S T)(hb:a≤b):BZ b S T:=⟨h.n,h.k,h.o,h.ers,fun N hN=>(h.bd N hN).mono O⟩
theorem BZ.of{S T:An}(h1:T.q=S.q)(h2:T.k=S.k)(h3:T.n=S.n)(h4:T.next=S.next)(h5:T.o=S.o)(h6:S.ee≠0→T.ee=S.ee∧T.ea=S.ea):BZ 0 S T :=
 ⟨h3,h2,h5,h6,fun N h=>⟨by rw [h1];exact h.vl,by rw [h4];exact h.nl,by rw [h4];exact h.nx,by rw [h3,h4];exact h.lv,by rw [h2];exact h.sc,by rw [h1];exact h.vs⟩⟩
theorem Oe(a e:Int)(S:An):(DI a e S).q=S.q∧(DI a e S).k=S.k∧(DI a e S).n=S.n∧(DI a e S).next=S.next∧(DI a e S).o=S.o∧(S.ee≠0→(DI a e S).ee=S.ee∧(DI a e S).ea=S.ea):=by
 unfold DI;cases h:Ae (S.ee=0);exact ⟨rfl,rfl,rfl,rfl,rfl,fun _=>⟨rfl,rfl⟩⟩;exact ⟨rfl,rfl,rfl,rfl,rfl,fun hn=>absurd (AV h) hn⟩
theorem NC(b:Bool)(a e:Int)(S:An):(AH b a e S).q=S.q∧(AH b a e S).k=S.k∧(AH b a e S).n=S.n∧(AH b a e S).next=S.next∧(AH b a e S).o=S.o∧(S.ee≠0→(AH b a e S).ee=S.ee∧(AH b a e S).ea=S.ea):=by
 unfold AH;cases b;exact Oe a e S;exact ⟨rfl,rfl,rfl,rfl,rfl,fun _=>⟨rfl,rfl⟩⟩
theorem Y2(a e:Int)(S:An):BZ 0 S (DI a e S):=by obtain ⟨h1,h2,h3,h4,h5,h6⟩:=Oe a e S;exact BZ.of h1 h2 h3 h4 h5 h6
theorem RD(b:Bool)(a e:Int)(S:An):BZ 0 S (AH b a e S):=by obtain ⟨h1,h2,h3,h4,h5,h6⟩:=NC b a e S;exact BZ.of h1 h2 h3 h4 h5 h6
theorem BZ.am{d:Nat}{S T:An}(h:BZ d S T)(a e:Int):BZ d S (DI a e T):=h.trans (Y2 a e T)
theorem BZ.C{d:Nat}{S T:An}(h:BZ d S T)(b:Bool)(a e:Int):BZ d S (AH b a e T):=h.trans (RD b a e T)
theorem BZ.cond{d:Nat}{S T j':An}{b:Bool}(h:BZ d S T)(k:BZ d S j'):BZ d S (bif b then T else j'):=by cases b <;> assumption
theorem kE(F n:Nd)(S:An):BZ 0 S (IX F n S):=((BZ.refl S).C _ _ _).cond (BZ.refl S)
theorem Ry(F n:Nd)(S:An):BZ 0 S (D0 F n S):=(kE F n S).C _ _ _
theorem jR{l:List Nat}{i:Nat}{a x:Nat}(h:x∈l.set i a):x∈l∨x=a:=List.mem_or_eq_of_mem_set h
theorem Yd{S:An}{N:Nat}(h:EQ S N):Ed S≤N:=by
 have hl:=h.lv;have:Ed S=S.next[S.n]:=by rw [Ed,Cl,Eb hl];rfl
 rw [this];exact h.nx _ (AN hl)
theorem RE(s:List UInt8)(y:Bu)(a:Int)(S:An):BZ 1 S (GF s y a S):=by
 have hq:=NC (!Ku S s) a 6 S;refine ⟨hq.2.2.1,hq.2.1,hq.2.2.2.2.1,hq.2.2.2.2.2,fun N h=>?_⟩;have hd:=Yd h;refine ⟨?_,?_,?_,?_,?_,?_⟩;show (S.q++[_]).length≤_;have:=h.vl;simp;omega;show (S.next.set _ _).length≤_;have:=h.nl;simp;omega;intro k hk;rcases jR (show k∈S.next.set S.n (Ed S+1) from hk) with h1|h1;have:=h.nx k h1;omega;omega;show (AH (!Ku S s) a 6 S).n<(S.next.set _ _).length;rw [hq.2.2.1];have:=h.lv;simp;omega;show (AH (!Ku S s) a 6 S).k≤_;rw [hq.2.1];have:=h.sc;omega;intro v hv;have hv:v∈S.q++[⟨s,y,Ed S,S.n,S.k⟩]:=hv;rcases Fy.1 hv with h1|h1;have:=h.vs v h1;omega;obtain rfl:=HZ.1 h1;have h2:=h.lv;have h3:=h.nl;have h4:=h.sc;exact ⟨by show Ed S≤_;omega,by show S.n≤_;omega,by show S.k≤_;omega⟩
theorem lH(sc:Nat)(l:List DD):(Jv sc l).length≤l.length:=by
 unfold Jv;rw [Ka];have h:(l.reverse.dropWhile fun v=>Ae (v.k=sc)).length≤l.reverse.length:=(J9 _).length_le;rwa [Ka] at h
theorem oM{sc:Nat}{l:List DD}{v:DD}(h:v∈Jv sc l):v∈l:=by
 unfold Jv at h;exact FP.1 ((J9 _).subset (FP.1 h))
theorem fP{d:Nat}{S T:An}(h:BZ d (Ee S) T):BZ (1+d) S (IP T):=by
 refine ⟨h.n,?_,h.o,h.ers,fun N hN=>?_⟩;show T.k-1=S.k;rw [h.k];rfl;have h1:EQ (Ee S) (N+1):=⟨by have:=hN.vl;show S.q.length≤_;omega,by have:=hN.nl;show S.next.length≤_;omega,fun k hk=>by have:=hN.nx k hk;omega,hN.lv,by have:=hN.sc;show S.k+1≤_;omega,fun v hv=>by have:=hN.vs v hv;omega⟩;have h2:=h.bd _ h1;rw [show N+1+d=N+(1+d) by omega] at h2;refine ⟨Dg (lH _ _) h2.vl,h2.nl,h2.nx,h2.lv,Dg (Nat.sub_le _ _) h2.sc,fun v hv=>h2.vs v (oM hv)⟩
theorem UQ{S:An}{N:Nat}(h:EQ S N):EQ (Fj S) (N+1):=by
 have hl:=h.lv;have hn:=h.nl;refine ⟨by have:=h.vl;show S.q.length≤_;omega,?_,?_,?_,by have:=h.sc;show S.k≤_;omega,fun v hv=>by have:=h.vs v hv;omega⟩;show (S.next.take (S.n+1)++[0]).length≤_;simp;omega;intro k hk;rcases Fy.1 (show k∈S.next.take (S.n+1)++[0] from hk) with h1|h1;have:=h.nx k (Jm h1);omega;simp at h1;omega;show S.n+1<(S.next.take (S.n+1)++[0]).length;simp;omega
theorem lS{d:Nat}{S T:An}(h:BZ d (Fj S) T):BZ (1+d) S { T with n:=T.n-1,o:=S.o }:=by
 have hl:T.n=S.n+1:=h.n;refine ⟨by show T.n-1=_;omega,h.k,rfl,h.ers,fun N hN=>?_⟩;have h2:=h.bd _ (UQ hN);rw [show N+1+d=N+(1+d) by omega] at h2;exact ⟨h2.vl,h2.nl,h2.nx,by have:=h2.lv;show T.n-1<T.next.length;omega,h2.sc,h2.vs⟩
def DM(t:Nd)(i:Nat):Nat:=(t.b.map count).getD i 0
def CV(t:Nd):Nat→Nat
 | 0=>0
 | i+1=>CV t i+DM t i
theorem qW(t:Nd)(i:Nat):CV t i=((t.b.map count).take i).sum:=by
 induction i with
 | zero=>rfl
 | succ i ih =>
  rw [CV,ih,List.take_add_one,DM,Cl,List.sum_append];cases (t.b.map count)[i]? <;> simp
theorem IC(t:Nd)(i:Nat):CV t i+1≤count t:=by
 rw [qW,Iy];have:=VR (t.b.map count) i;omega
theorem H4{t:Nd}{i:Nat}(h:i<t.b.length):DM t i=count (V t i):=by
 rw [DM,D6 h];simp [Cl,Eb h]
structure GH (c:GT) (d:Nat):Prop where
  ex:∀ S,BZ d S (c.ex S).2
  w:∀ S,BZ d S (c.w S).2
  s:∀ S,BZ d S (c.s S).2
  st:∀ S,BZ d S (c.st S).2
  p:∀ S,BZ d S (c.p S).2
  ifs:∀ S,BZ d S (c.ifs S).2
  u:∀ S,BZ d S (c.u S).2
  cas:∀ f S,BZ d S (c.cas f S).2
theorem XV:GH PB 0:=⟨fun S=>BZ.refl S,fun S=>BZ.refl S,fun S=>BZ.refl S,fun S=>BZ.refl S,fun S=>BZ.refl S,fun S=>BZ.refl S,fun S=>BZ.refl S,fun _ S=>BZ.refl S⟩
section
variable {F t:Nd} {x:Nat→GT}
theorem eI(X:∀ i,GH (x i) (DM t i))(S:An):BZ (CV t 1) S (Ew F t x S).2:=by
 have h:BZ (CV t 1) S ((x 0).ex S).2:=((X 0).ex S).mono (by simp [CV]);unfold Ew;dsimp only;cases Ae (((x 0).ex S).1.ty.c=4);exact h.am _ _;simp only [A8];split;exact h;exact h.am _ _
theorem TI(X:∀ i,GH (x i) (DM t i))(ps:List Bu){S T:An}(h:BZ (CV t 1) S T):∀ i,BZ (CV t (i+1)) S (Eo t x ps T i).2
 | 0=>h
 | i+1=>((TI X ps h i).trans ((X (i+1)).ex _)).C _ _ _
theorem pE(X:∀ i,GH (x i) (DM t i))(S:An):BZ (CV t (t.b.length-1+1)) S (I3 t x S).2 :=
 TI X _ ((((X 0).s S).mono (by simp [CV])).C _ _ _) _
theorem wK(X:∀ i,GH (x i) (DM t i))(S:An):BZ (1+CV t 1) S (NP t x S).2:=lS (((X 0).p _).mono (by simp [CV]))
theorem Tt(X:∀ i,GH (x i) (DM t i))(S:An):BZ (CV t 1) S ((x 0).ex S).2:=((X 0).ex S).mono (by simp [CV])
theorem pY(X:∀ i,GH (x i) (DM t i))(S:An):BZ (CV t 2) S (FC t x S).2:=by
 have h:=Tt X S;have h1:∀ T,BZ (CV t 1) S T→BZ (CV t 2) S ((x 1).ex T).2:=fun T hT=>hT.trans ((X 1).ex T);have hm:∀ {T},BZ (CV t 1) S T→BZ (CV t 2) S T:=fun hT=>hT.mono (Nat.le_add_right _ _);unfold FC;dsimp only [DG];repeat' (first|(generalize Ae (t.c=_)=q;cases q <;> simp only [A8,A0]))
 all_goals first
  | exact (h1 _ (h.C _ _ _)).C _ _ _
  | exact (h1 _ h).C _ _ _
  | exact hm (h.C _ _ _)
  | exact hm h
theorem fN(X:∀ i,GH (x i) (DM t i))(S:An):BZ (count t) S (Ek F t x S).2:=by
 have hc:∀ i,CV t i+1≤count t:=IC t;have h0:∀ {T},BZ 0 S T→BZ (count t) S T:=fun h=>h.mono (Bh _);unfold Ek;cases Ae (t.c=24);case true=>exact h0 (BZ.refl S)
 cases Ae (t.c=25);case true=>exact h0 (BZ.refl S)
 cases Ae (t.c=26);case true=>exact h0 (BZ.refl S)
 cases Ae (t.c=38);case true=>exact (wK X S).mono (by have:=hc 1;omega)
 cases Ae (t.c=30);case true=>exact (pE X S).mono (by have:=hc (t.b.length-1+1);omega)
 cases Ae (t.c=27);case true=>exact h0 (((BZ.refl S).C _ _ _).cond ((BZ.refl S).am _ _))
 cases Ae (t.c=28);case true=>exact ((eI X S).C _ _ _).mono (by have:=hc 1;omega)
 cases Ae (t.c=34);case true=>exact h0 ((BZ.refl S).C _ _ _)
 exact (pY X S).mono (by have:=hc 2;omega)
theorem qU(X:∀ i,GH (x i) (DM t i))(S:An):BZ (count t) S (FR F t x S).2:=by
 have hc:=IC t 1;unfold FR;dsimp only;cases Ae (t.c=28)&&((x 0).rcv S).2;simp only [A0];cases Ae (t.c=27)&&((CE F S t).2&&Ae ((CE F S t).1.ref=3));exact (fN X S).C _ _ _;exact (BZ.refl S).mono (Bh _);refine BZ.C ?_ _ _ _;unfold GS;cases Ae ((V t 0).c=28);exact (BZ.refl S).mono (Bh _);exact ((X 0).w S).mono (by simp [CV] at hc;omega)
theorem Un(X:∀ i,GH (x i) (DM t i))(S:An):∀ i,BZ (CV t i) S (GQ x S i).2
 | 0=>BZ.refl S
 | i+1=>(Un X S i).trans ((X i).st _)
theorem ZQ(X:∀ i,GH (x i) (DM t i))(S:An):BZ (CV t t.b.length) S (PG t x S).2:=Un X S _
theorem aQ(X:∀ i,GH (x i) (DM t i))(S:An):BZ (count t) S (Pt t x S).2:=(fP (ZQ X (Ee S))).mono (by have:=IC t t.b.length;omega)
theorem bP(X:∀ i,GH (x i) (DM t i))(k:Nd){S T:An}(h:BZ 0 S T):BZ (CV t 1) S (GJ k (x 0) T).2:=by
 unfold GJ;cases Ae (k.c=9);exact (h.trans ((X 0).ex T)).mono (by simp [CV]) |>.C _ _ _
 exact h.mono (Bh _)
theorem Xb(X:∀ i,GH (x i) (DM t i))(S:An):BZ (CV t 3) S (Jy t x S).2:=by
 have h1:BZ (CV t 2) S ((x 1).p (GJ (V t 0) (x 0) S).2).2:=(bP X _ (BZ.refl S)).trans ((X 1).p _);unfold Jy;dsimp only;cases Ae ((V t 2).c=10);cases Ae ((V t 2).c=18);exact h1.mono (Nat.le_add_right _ _);exact h1.trans ((X 2).ifs _);exact h1.trans ((X 2).p _)
theorem jG(X:∀ i,GH (x i) (DM t i))(S:An):BZ (CV t 2) S (KH t x S).2:=(((Tt X S).C _ _ _).trans ((X 1).ex _)).C _ _ _
theorem nY(X:∀ i,GH (x i) (DM t i))(f:Bool)(S:An):BZ (1+CV t 2) S (Oh t x f S).2:=by
 refine fP (BZ.trans (a:=CV t 1) (T:=(bif Ae ((V t 0).c=9) then (DN (V t 0),AH f t.m 6 (Ee S)) else (x 0).st (Ee S)).2) ?_ ((X 1).u _));cases Ae ((V t 0).c=9);exact ((X 0).st _).mono (by simp [CV]);exact ((BZ.refl _).C _ _ _).mono (Bh _)
theorem Sr(X:∀ i,GH (x i) (DM t i))(S:An):∀ i,BZ (CV t i) S (CR t x S i).2.2
 | 0=>BZ.refl S
 | i+1=>(Sr X S i).trans ((X i).cas _ _)
theorem wF(X:∀ i,GH (x i) (DM t i))(S:An):BZ (1+CV t 2) S (Iv F t x S).2:=by
 unfold Iv;dsimp only;cases Ae ((V t 1).c=9);exact (((((Ry F _ S).trans ((X 1).ex _)).C _ _ _).trans (RE _ _ _ _)).mono (by simp [CV];omega));exact ((Ry F _ S).trans (RE _ _ _ _)).mono O
theorem sU(X:∀ i,GH (x i) (DM t i))(S:An):BZ (1+CV t 1) S (My t x S).2:=(((Tt X S).C _ _ _).trans (RE _ _ _ _)).mono O
theorem yF(X:∀ i,GH (x i) (DM t i))(S:An):BZ (CV t 2) S (M3 t x S).2:=(bP X _ (BZ.refl S)).trans ((X 1).p _)
theorem gF(X:∀ i,GH (x i) (DM t i))(S:An):BZ (CV t 1) S (Iu t x S).2:=by
 unfold Iu;dsimp only;cases Ae ((t.b.length:Int)=1);exact ((BZ.refl S).C _ _ _).mono (Bh _);exact ((((BZ.refl S).C _ _ _).trans ((X 0).ex _)).mono (by simp [CV])).C _ _ _
theorem qJ(X:∀ i,GH (x i) (DM t i))(S:An):BZ (count t) S (DH F t x S).2:=by
 have hc:∀ i,CV t i+1≤count t:=IC t;unfold DH;dsimp only;cases Ae (t.c=10);case true=>exact aQ X S
 cases Ae (t.c=18);case true=>exact (Xb X S).mono (by have:=hc 3;omega)
 cases Ae (t.c=12);case true=>exact (jG X S).mono (by have:=hc 2;omega)
 cases Ae (t.c=22);case true=>exact (Sr X S _).mono (by have:=hc t.b.length;omega)
 cases Ae (t.c=6);case true=>exact (wF X S).mono (by have:=hc 2;omega)
 cases Ae (t.c=11);case true=>exact (sU X S).mono (by have:=hc 1;omega)
 cases Ae (t.c=19);case true=>exact (yF X S).mono (by have:=hc 2;omega)
 cases Ae (t.c=20);case true=>exact (gF X S).mono (by have:=hc 1;omega)
 have h:=Tt X S;simp only [A0,DG];cases Ae (t.c=16);case true=>exact (((h.C _ _ _).trans ((X 1).ex _)).C _ _ _).mono (by have:=hc 2;simp only [CV] at this ⊢;omega)
 cases Ae (t.c=17);case true=>exact (h.C _ _ _).mono (by have:=hc 1;omega)
 cases Ae (t.c=21);case true=>exact (h.C _ _ _).mono (by have:=hc 1;omega)
 exact h.mono (by have:=hc 1;omega)
theorem zK(X:∀ i,GH (x i) (DM t i)):GH (Pz F t x) (count t) :=
 ⟨fN X,fun S=>(eI X S).mono (by have:=IC t 1;omega),qU X,qJ X,aQ X,fun S=>(Xb X S).mono (by have:=IC t 3;omega),fun S=>(ZQ X S).mono (by have:=IC t t.b.length;omega),fun f S=>(nY X f S).mono (by have:=IC t 2;omega)⟩
end
theorem EE(F:Nd):∀ t,GH (Ah F t) (count t):=by
 refine Nd.ao fun t ih=>?_;rw [GL];refine zK fun i=>?_;by_cases h:i<t.b.length;rw [Dz h,H4 h,D6 h];exact ih _ (AN h);rw [Ax,DM];simp only [Cl,E1];rw [DV O];exact XV
theorem Nv(F t:Nd)(i:Nat):GH (Ax F t i) (DM t i):=by
 by_cases h:i<t.b.length;rw [Dz h,H4 h];exact EE F _;rw [Ax,DM];simp only [Cl,E1];rw [DV O];exact XV
def DX(S:An):Prop:=∀ v∈S.q,v.k≤S.k
structure Cm (S T:An):Prop where
  q:T.q=S.q
  k:T.k=S.k
structure JC (S T:An):Prop where
  q:∃ l,T.q=S.q++l∧∀ v∈l,v.k=S.k
  k:T.k=S.k
theorem Cm.refl(S:An):Cm S S:=⟨rfl,rfl⟩
theorem Cm.trans{S T j':An}(h:Cm S T)(k:Cm T j'):Cm S j':=⟨k.q.trans h.q,k.k.trans h.k⟩
theorem Cm.sc{S T:An}(h:Cm S T)(k:DX S):DX T:=fun v hv=>by rw [h.k];exact k v (h.q▸hv)
theorem Cm.vp{S T:An}(h:Cm S T):JC S T:=⟨⟨[],by rw [h.q,List.append_nil],fun v hv=>by cases hv⟩,h.k⟩
theorem JC.sc{S T:An}(h:JC S T)(k:DX S):DX T:=fun v hv=>by
 obtain ⟨l,h1,h2⟩:=h.q;rw [h.k];rcases Fy.1 (h1▸hv) with q|q;exact k v q;exact Nat.le_of_eq (h2 v q)
theorem JC.trans{S T j':An}(h:JC S T)(k:JC T j'):JC S j':=by
 obtain ⟨l,h1,h2⟩:=h.q;obtain ⟨m,k1,k2⟩:=k.q;refine ⟨⟨l++m,by rw [k1,h1,Ih],fun v hv=>?_⟩,k.k.trans h.k⟩;rcases Fy.1 hv with q|q;exact h2 v q;rw [k2 v q,h.k]
theorem yC(a e:Int)(S:An):Cm S (DI a e S):=⟨(Oe a e S).1,(Oe a e S).2.1⟩
theorem iP(b:Bool)(a e:Int)(S:An):Cm S (AH b a e S):=⟨(NC b a e S).1,(NC b a e S).2.1⟩
theorem Cm.am{S T:An}(h:Cm S T)(a e:Int):Cm S (DI a e T):=h.trans (yC a e T)
theorem Cm.C{S T:An}(h:Cm S T)(b:Bool)(a e:Int):Cm S (AH b a e T):=h.trans (iP b a e T)
theorem Cm.cond{S T j':An}{b:Bool}(h:Cm S T)(k:Cm S j'):Cm S (bif b then T else j'):=by cases b <;> assumption
theorem uS(F n:Nd)(S:An):Cm S (IX F n S):=((Cm.refl S).C _ _ _).cond (Cm.refl S)
theorem Rz(F n:Nd)(S:An):Cm S (D0 F n S):=(uS F n S).C _ _ _
theorem VI(s:List UInt8)(y:Bu)(a:Int)(S:An):JC S (GF s y a S) :=
 ⟨⟨[⟨s,y,Ed S,S.n,S.k⟩],rfl,fun v hv=>by rw [HZ.1 hv]⟩,(NC (!Ku S s) a 6 S).2.1⟩
theorem eX{sc:Nat}{vs l:List DD}(h1:∀ v∈l,v.k=sc)(h2:∀ v∈vs,v.k<sc):Jv sc (vs++l)=vs:=by
 unfold Jv;rw [Ke]
 have e:∀ (a b:List DD),(∀ v∈a,v.k=sc)→(∀ v∈b,v.k<sc)→(a++b).dropWhile (fun v=>Ae (v.k=sc))=b:=by
  intro a b ha hb
  induction a with
  | nil =>
   cases b with
   | nil=>rfl
   | cons x b=>rw [List.nil_append,List.dropWhile_cons_of_neg];have:=hb x Gx;simp;omega
  | cons x a ih=>rw [List.cons_append,List.dropWhile_cons_of_pos (by simp [ha x Gx])];exact ih fun v hv=>ha v (Gz _ hv)
 rw [e l.reverse vs.reverse (fun v hv=>h1 v (FP.1 hv)) (fun v hv=>h2 v (FP.1 hv)),List.reverse_reverse]
theorem ZC{S T:An}(hs:DX S)(h:JC (Ee S) T):Cm S (IP T):=by
 obtain ⟨l,h1,h2⟩:=h.q;have aa:T.k=S.k+1:=h.k;refine ⟨?_,by show T.k-1=_;omega⟩;show Jv T.k T.q=S.q;rw [h1,aa];exact eX h2 fun v hv=>Nat.lt_succ_of_le (hs v hv)
theorem TX{S:An}(h:DX S):DX (Ee S):=fun v hv=>Nat.le_succ_of_le (h v hv)
theorem mV{S T:An}(h:Cm (Fj S) T):Cm S { T with n:=T.n-1,o:=S.o }:=⟨h.q,h.k⟩
structure G3 (c:GT):Prop where
  ex:∀ S,DX S→Cm S (c.ex S).2
  w:∀ S,DX S→Cm S (c.w S).2
  s:∀ S,DX S→Cm S (c.s S).2
  st:∀ S,DX S→JC S (c.st S).2
  p:∀ S,DX S→Cm S (c.p S).2
  ifs:∀ S,DX S→Cm S (c.ifs S).2
  u:∀ S,DX S→JC S (c.u S).2
  cas:∀ f S,DX S→Cm S (c.cas f S).2
theorem ZP:G3 PB:=⟨fun S _=>Cm.refl S,fun S _=>Cm.refl S,fun S _=>Cm.refl S,fun S _=>(Cm.refl S).vp,fun S _=>Cm.refl S,fun S _=>Cm.refl S,fun S _=>(Cm.refl S).vp,fun _ S _=>Cm.refl S⟩
section
variable {F t:Nd} {x:Nat→GT}
theorem Cm.ex(X:∀ i,G3 (x i)){S T:An}(h:Cm S T)(hs:DX S)(i:Nat):Cm S ((x i).ex T).2:=h.trans ((X i).ex T (h.sc hs))
theorem Cm.p(X:∀ i,G3 (x i)){S T:An}(h:Cm S T)(hs:DX S)(i:Nat):Cm S ((x i).p T).2:=h.trans ((X i).p T (h.sc hs))
theorem Yz(X:∀ i,G3 (x i)){S:An}(hs:DX S):Cm S (Ew F t x S).2:=by
 have h:=Cm.ex X (Cm.refl S) hs 0;unfold Ew;dsimp only;cases Ae (((x 0).ex S).1.ty.c=4);exact h.am _ _;simp only [A8];split;exact h;exact h.am _ _
theorem Wo(X:∀ i,G3 (x i))(ps:List Bu){S T:An}(hs:DX S)(h:Cm S T):∀ i,Cm S (Eo t x ps T i).2
 | 0=>h
 | i+1=>(Cm.ex X (Wo X ps hs h i) hs (i+1)).C _ _ _
theorem vL(X:∀ i,G3 (x i)){S:An}(hs:DX S):Cm S (I3 t x S).2:=Wo X _ hs (((X 0).s S hs).C _ _ _) _
theorem tD(X:∀ i,G3 (x i)){S:An}(hs:DX S):Cm S (NP t x S).2:=mV ((X 0).p (Fj S) hs)
theorem nC(X:∀ i,G3 (x i)){S:An}(hs:DX S):Cm S (FC t x S).2:=by
 have h:=Cm.ex X (Cm.refl S) hs 0;unfold FC;dsimp only [DG];repeat' (first|(generalize Ae (t.c=_)=q;cases q <;> simp only [A8,A0]))
 all_goals first
  | exact (Cm.ex X (h.C _ _ _) hs 1).C _ _ _
  | exact (Cm.ex X h hs 1).C _ _ _
  | exact h.C _ _ _
  | exact h
theorem T3(X:∀ i,G3 (x i)){S:An}(hs:DX S):Cm S (Ek F t x S).2:=by
 unfold Ek;cases Ae (t.c=24);case true=>exact Cm.refl S
 cases Ae (t.c=25);case true=>exact Cm.refl S
 cases Ae (t.c=26);case true=>exact Cm.refl S
 cases Ae (t.c=38);case true=>exact tD X hs
 cases Ae (t.c=30);case true=>exact vL X hs
 cases Ae (t.c=27);case true=>exact ((Cm.refl S).C _ _ _).cond ((Cm.refl S).am _ _)
 cases Ae (t.c=28);case true=>exact (Yz X hs).C _ _ _
 cases Ae (t.c=34);case true=>exact (Cm.refl S).C _ _ _
 exact nC X hs
theorem xM(X:∀ i,G3 (x i)){S:An}(hs:DX S):Cm S (FR F t x S).2:=by
 unfold FR;dsimp only;cases Ae (t.c=28)&&((x 0).rcv S).2;simp only [A0];cases Ae (t.c=27)&&((CE F S t).2&&Ae ((CE F S t).1.ref=3));exact (T3 X hs).C _ _ _;exact Cm.refl S;refine Cm.C ?_ _ _ _;unfold GS;cases Ae ((V t 0).c=28);exact Cm.refl S;exact (X 0).w S hs
theorem R3(X:∀ i,G3 (x i)){S:An}(hs:DX S):∀ i,JC S (GQ x S i).2
 | 0=>(Cm.refl S).vp
 | i+1=>(R3 X hs i).trans ((X i).st _ ((R3 X hs i).sc hs))
theorem Zz(X:∀ i,G3 (x i)){S:An}(hs:DX S):JC S (PG t x S).2:=R3 X hs _
theorem VL(X:∀ i,G3 (x i)){S:An}(hs:DX S):Cm S (Pt t x S).2:=ZC hs (Zz X (TX hs))
theorem WO(X:∀ i,G3 (x i))(k:Nd){S:An}(hs:DX S):Cm S (GJ k (x 0) S).2:=by
 unfold GJ;cases Ae (k.c=9);exact ((X 0).ex S hs).C _ _ _;exact Cm.refl S
theorem Uo(X:∀ i,G3 (x i)){S:An}(hs:DX S):Cm S (Jy t x S).2:=by
 have h1:Cm S ((x 1).p (GJ (V t 0) (x 0) S).2).2:=Cm.p X (WO X _ hs) hs 1;unfold Jy;dsimp only;cases Ae ((V t 2).c=10);cases Ae ((V t 2).c=18);exact h1;exact h1.trans ((X 2).ifs _ (h1.sc hs));exact h1.trans ((X 2).p _ (h1.sc hs))
theorem ZR(X:∀ i,G3 (x i)){S:An}(hs:DX S):Cm S (KH t x S).2:=(Cm.ex X ((Cm.ex X (Cm.refl S) hs 0).C _ _ _) hs 1).C _ _ _
theorem jU(X:∀ i,G3 (x i))(f:Bool){S:An}(hs:DX S):Cm S (Oh t x f S).2:=by
 have h:JC (Ee S) (bif Ae ((V t 0).c=9) then (DN (V t 0),AH f t.m 6 (Ee S)) else (x 0).st (Ee S)).2:=by
  cases Ae ((V t 0).c=9);exact (X 0).st _ (TX hs);exact ((Cm.refl _).C _ _ _).vp
 exact ZC hs (h.trans ((X 1).u _ (h.sc (TX hs))))
theorem Rl(X:∀ i,G3 (x i)){S:An}(hs:DX S):∀ i,Cm S (CR t x S i).2.2
 | 0=>Cm.refl S
 | i+1=>(Rl X hs i).trans ((X i).cas _ _ ((Rl X hs i).sc hs))
theorem Aaj(X:∀ i,G3 (x i)){S:An}(hs:DX S):JC S (Iv F t x S).2:=by
 unfold Iv;dsimp only;cases Ae ((V t 1).c=9);exact ((Cm.ex X (Rz F _ S) hs 1).C _ _ _).vp.trans (VI _ _ _ _);exact (Rz F _ S).vp.trans (VI _ _ _ _)
theorem iU(X:∀ i,G3 (x i)){S:An}(hs:DX S):JC S (My t x S).2:=(((X 0).ex S hs).C _ _ _).vp.trans (VI _ _ _ _)
theorem YR(X:∀ i,G3 (x i)){S:An}(hs:DX S):Cm S (M3 t x S).2:=Cm.p X (WO X _ hs) hs 1
theorem aM(X:∀ i,G3 (x i)){S:An}(hs:DX S):Cm S (Iu t x S).2:=by
 unfold Iu;dsimp only;cases Ae ((t.b.length:Int)=1);exact (Cm.refl S).C _ _ _;exact (Cm.ex X ((Cm.refl S).C _ _ _) hs 0).C _ _ _
theorem tE(X:∀ i,G3 (x i)){S:An}(hs:DX S):JC S (DH F t x S).2:=by
 unfold DH;dsimp only;cases Ae (t.c=10);case true=>exact (VL X hs).vp
 cases Ae (t.c=18);case true=>exact (Uo X hs).vp
 cases Ae (t.c=12);case true=>exact (ZR X hs).vp
 cases Ae (t.c=22);case true=>exact (Rl X hs _).vp
 cases Ae (t.c=6);case true=>exact Aaj X hs
 cases Ae (t.c=11);case true=>exact iU X hs
 cases Ae (t.c=19);case true=>exact (YR X hs).vp
 cases Ae (t.c=20);case true=>exact (aM X hs).vp
 have h:=(X 0).ex S hs;simp only [A0,DG];cases Ae (t.c=16);case true=>exact ((Cm.ex X (h.C _ _ _) hs 1).C _ _ _).vp
 cases Ae (t.c=17);case true=>exact (h.C _ _ _).vp
 cases Ae (t.c=21);case true=>exact (h.C _ _ _).vp
 exact h.vp
theorem oE(X:∀ i,G3 (x i)):G3 (Pz F t x) :=
 ⟨fun S h=>T3 X h,fun S h=>Yz X h,fun S h=>xM X h,fun S h=>tE X h,fun S h=>VL X h,fun S h=>Uo X h,fun S h=>Zz X h,fun f S h=>jU X f h⟩
end
theorem KN(F:Nd):∀ t,G3 (Ah F t):=by
 refine Nd.ao fun t ih=>?_;rw [GL];refine oE fun i=>?_;by_cases h:i<t.b.length;rw [Dz h,D6 h];exact ih _ (AN h);rw [Ax];simp only [Cl,E1];rw [DV O];exact ZP
theorem Ux(F t:Nd)(i:Nat):G3 (Ax F t i):=by
 by_cases h:i<t.b.length;rw [Dz h];exact KN F _;rw [Ax];simp only [Cl,E1];rw [DV O];exact ZP
def E8(S:An):Prop:=S.n<S.next.length
structure Gt (S T:An):Prop where
  lv:T.n=S.n
  nx:∀ i,i<S.n→T.next[i]? = S.next[i]?
  ln:S.n<T.next.length
structure C1 (S T:An):Prop where
  lv:T.n=S.n
  nx:∀ i,i≤S.n→T.next[i]? = S.next[i]?
  ln:S.n<T.next.length
theorem C1.refl{S:An}(h:E8 S):C1 S S:=⟨rfl,fun _ _=>rfl,h⟩
theorem C1.nl{S T:An}(h:C1 S T):Gt S T:=⟨h.lv,fun i hi=>h.nx i (Nat.le_of_lt hi),h.ln⟩
theorem C1.l{S T:An}(h:C1 S T):E8 T:=by have:=h.ln;unfold E8;rw [h.lv];exact this
theorem Gt.l{S T:An}(h:Gt S T):E8 T:=by have:=h.ln;unfold E8;rw [h.lv];exact this
theorem C1.trans{S T j':An}(h:C1 S T)(k:C1 T j'):C1 S j':=⟨k.lv.trans h.lv,fun i hi=>(k.nx i (h.lv▸hi)).trans (h.nx i hi),h.lv▸k.ln⟩
theorem Gt.trans{S T j':An}(h:Gt S T)(k:Gt T j'):Gt S j':=⟨k.lv.trans h.lv,fun i hi=>(k.nx i (h.lv▸hi)).trans (h.nx i hi),h.lv▸k.ln⟩
theorem eP{S T:An}(h:E8 S)(h3:T.n=S.n)(h4:T.next=S.next):C1 S T:=⟨h3,fun i _=>by rw [h4],by rw [h4];exact h⟩
theorem C1.am{S T:An}(h:C1 S T)(a e:Int):C1 S (DI a e T):=h.trans (eP h.l (Oe a e T).2.2.1 (Oe a e T).2.2.2.1)
theorem C1.C{S T:An}(h:C1 S T)(b:Bool)(a e:Int):C1 S (AH b a e T):=h.trans (eP h.l (NC b a e T).2.2.1 (NC b a e T).2.2.2.1)
theorem C1.cond{S T j':An}{b:Bool}(h:C1 S T)(k:C1 S j'):C1 S (bif b then T else j'):=by cases b <;> assumption
theorem U5(F n:Nd){S:An}(h:E8 S):C1 S (D0 F n S):=(((C1.refl h).C _ _ _).cond (C1.refl h)).C _ _ _
theorem U7(s:List UInt8)(y:Bu)(a:Int){S:An}(h:E8 S):Gt S (GF s y a S):=by
 refine ⟨(NC (!Ku S s) a 6 S).2.2.1,fun i hi=>?_,?_⟩;show (S.next.set S.n (Ed S+1))[i]? = _;rw [List.getElem?_set_ne O];show S.n<(S.next.set _ _).length;rw [List.length_set];exact h
theorem WY{S T:An}(h:Gt (Ee S) T):Gt S (IP T):=⟨h.lv,h.nx,h.ln⟩
theorem zA{S:An}(h:E8 S):E8 (Fj S):=by
 unfold E8 at h;show S.n+1<(S.next.take (S.n+1)++[0]).length;rw [LD,List.length_take];simp only [Ic,List.length_nil];omega
theorem yQ{S T:An}(hs:E8 S)(h:Gt (Fj S) T):C1 S { T with n:=T.n-1,o:=S.o }:=by
 have h1:T.n=S.n+1:=h.lv;have h3:S.n+1<T.next.length:=h.ln;refine ⟨by show T.n-1=_;omega,fun i hi=>?_,by show S.n<T.next.length;omega⟩;have h2:=h.nx i (show i<S.n+1 by omega);refine h2.trans ?_;show (S.next.take (S.n+1)++[0])[i]? = _;unfold E8 at hs;rw [List.getElem?_append_left (by rw [List.length_take];omega),List.getElem?_take_of_lt O]
structure Ht (c:GT):Prop where
  ex:∀ S,E8 S→C1 S (c.ex S).2
  w:∀ S,E8 S→C1 S (c.w S).2
  s:∀ S,E8 S→C1 S (c.s S).2
  st:∀ S,E8 S→Gt S (c.st S).2
  p:∀ S,E8 S→Gt S (c.p S).2
  ifs:∀ S,E8 S→Gt S (c.ifs S).2
  u:∀ S,E8 S→Gt S (c.u S).2
  cas:∀ f S,E8 S→Gt S (c.cas f S).2
theorem oS:Ht PB:=⟨fun S h=>C1.refl h,fun S h=>C1.refl h,fun S h=>C1.refl h,fun S h=>(C1.refl h).nl,fun S h=>(C1.refl h).nl,fun S h=>(C1.refl h).nl,fun S h=>(C1.refl h).nl,fun _ S h=>(C1.refl h).nl⟩
section
variable {F t:Nd} {x:Nat→GT}
theorem C1.ex(X:∀ i,Ht (x i)){S T:An}(h:C1 S T)(i:Nat):C1 S ((x i).ex T).2:=h.trans ((X i).ex T h.l)
theorem Gt.p(X:∀ i,Ht (x i)){S T:An}(h:Gt S T)(i:Nat):Gt S ((x i).p T).2:=h.trans ((X i).p T h.l)
theorem cB(X:∀ i,Ht (x i)){S:An}(hs:E8 S):C1 S (Ew F t x S).2:=by
 have h:=C1.ex X (C1.refl hs) 0;unfold Ew;dsimp only;cases Ae (((x 0).ex S).1.ty.c=4);exact h.am _ _;simp only [A8];split;exact h;exact h.am _ _
theorem XX(X:∀ i,Ht (x i))(ps:List Bu){S T:An}(h:C1 S T):∀ i,C1 S (Eo t x ps T i).2
 | 0=>h
 | i+1=>(C1.ex X (XX X ps h i) (i+1)).C _ _ _
theorem gU(X:∀ i,Ht (x i)){S:An}(hs:E8 S):C1 S (I3 t x S).2:=XX X _ (((X 0).s S hs).C _ _ _) _
theorem kM(X:∀ i,Ht (x i)){S:An}(hs:E8 S):C1 S (NP t x S).2:=yQ hs ((X 0).p (Fj S) (zA hs))
theorem Aat(X:∀ i,Ht (x i)){S:An}(hs:E8 S):C1 S (FC t x S).2:=by
 have h:=C1.ex X (C1.refl hs) 0;unfold FC;dsimp only [DG];repeat' (first|(generalize Ae (t.c=_)=q;cases q <;> simp only [A8,A0]))
 all_goals first
  | exact (C1.ex X (h.C _ _ _) 1).C _ _ _
  | exact (C1.ex X h 1).C _ _ _
  | exact h.C _ _ _
  | exact h
theorem dM(X:∀ i,Ht (x i)){S:An}(hs:E8 S):C1 S (Ek F t x S).2:=by
 unfold Ek;cases Ae (t.c=24);case true=>exact C1.refl hs
 cases Ae (t.c=25);case true=>exact C1.refl hs
 cases Ae (t.c=26);case true=>exact C1.refl hs
 cases Ae (t.c=38);case true=>exact kM X hs
 cases Ae (t.c=30);case true=>exact gU X hs
 cases Ae (t.c=27);case true=>exact ((C1.refl hs).C _ _ _).cond ((C1.refl hs).am _ _)
 cases Ae (t.c=28);case true=>exact (cB X hs).C _ _ _
 cases Ae (t.c=34);case true=>exact (C1.refl hs).C _ _ _
 exact Aat X hs
theorem xD(X:∀ i,Ht (x i)){S:An}(hs:E8 S):C1 S (FR F t x S).2:=by
 unfold FR;dsimp only;cases Ae (t.c=28)&&((x 0).rcv S).2;simp only [A0];cases Ae (t.c=27)&&((CE F S t).2&&Ae ((CE F S t).1.ref=3));exact (dM X hs).C _ _ _;exact C1.refl hs;refine C1.C ?_ _ _ _;unfold GS;cases Ae ((V t 0).c=28);exact C1.refl hs;exact (X 0).w S hs
theorem Wt(X:∀ i,Ht (x i)){S:An}(hs:E8 S):∀ i,Gt S (GQ x S i).2
 | 0=>(C1.refl hs).nl
 | i+1=>(Wt X hs i).trans ((X i).st _ (Wt X hs i).l)
theorem XR(X:∀ i,Ht (x i)){S:An}(hs:E8 S):Gt S (PG t x S).2:=Wt X hs _
theorem XB(X:∀ i,Ht (x i)){S:An}(hs:E8 S):Gt S (Pt t x S).2:=WY (XR X (S:=Ee S) hs)
theorem XJ(X:∀ i,Ht (x i))(k:Nd){S:An}(hs:E8 S):C1 S (GJ k (x 0) S).2:=by
 unfold GJ;cases Ae (k.c=9);exact ((X 0).ex S hs).C _ _ _;exact C1.refl hs
theorem cE(X:∀ i,Ht (x i)){S:An}(hs:E8 S):Gt S (Jy t x S).2:=by
 have h1:Gt S ((x 1).p (GJ (V t 0) (x 0) S).2).2:=Gt.p X (XJ X _ hs).nl 1;unfold Jy;dsimp only;cases Ae ((V t 2).c=10);cases Ae ((V t 2).c=18);exact h1;exact h1.trans ((X 2).ifs _ h1.l);exact h1.trans ((X 2).p _ h1.l)
theorem pS(X:∀ i,Ht (x i)){S:An}(hs:E8 S):C1 S (KH t x S).2:=(C1.ex X ((C1.ex X (C1.refl hs) 0).C _ _ _) 1).C _ _ _
theorem vR(X:∀ i,Ht (x i))(f:Bool){S:An}(hs:E8 S):Gt S (Oh t x f S).2:=by
 have h:Gt (Ee S) (bif Ae ((V t 0).c=9) then (DN (V t 0),AH f t.m 6 (Ee S)) else (x 0).st (Ee S)).2:=by
  cases Ae ((V t 0).c=9);exact (X 0).st _ hs;exact ((C1.refl (S:=Ee S) hs).C f t.m 6).nl
 exact WY (h.trans ((X 1).u _ h.l))
theorem UW(X:∀ i,Ht (x i)){S:An}(hs:E8 S):∀ i,Gt S (CR t x S i).2.2
 | 0=>(C1.refl hs).nl
 | i+1=>(UW X hs i).trans ((X i).cas _ _ (UW X hs i).l)
theorem wV(X:∀ i,Ht (x i)){S:An}(hs:E8 S):Gt S (Iv F t x S).2:=by
 unfold Iv;dsimp only;cases Ae ((V t 1).c=9);have h:=(C1.ex X (U5 F (V t 0) hs) 1).C (EL (BF (V t 0)).1 ((x 1).ex (D0 F (V t 0) S)).1.ty) (V t 1).m 7;exact h.nl.trans (U7 _ _ _ h.l);exact (U5 F _ hs).nl.trans (U7 _ _ _ (U5 F _ hs).l)
theorem sV(X:∀ i,Ht (x i)){S:An}(hs:E8 S):Gt S (My t x S).2:=by
 have h:=((X 0).ex S hs).C (E7 ((x 0).ex S).1.ty) (V t 0).m 7;exact h.nl.trans (U7 _ _ _ h.l)
theorem mC(X:∀ i,Ht (x i)){S:An}(hs:E8 S):Gt S (M3 t x S).2:=Gt.p X (XJ X _ hs).nl 1
theorem uC(X:∀ i,Ht (x i)){S:An}(hs:E8 S):C1 S (Iu t x S).2:=by
 unfold Iu;dsimp only;cases Ae ((t.b.length:Int)=1);exact (C1.refl hs).C _ _ _;exact (C1.ex X ((C1.refl hs).C _ _ _) 0).C _ _ _
theorem qA(X:∀ i,Ht (x i)){S:An}(hs:E8 S):Gt S (DH F t x S).2:=by
 unfold DH;dsimp only;cases Ae (t.c=10);case true=>exact XB X hs
 cases Ae (t.c=18);case true=>exact cE X hs
 cases Ae (t.c=12);case true=>exact (pS X hs).nl
 cases Ae (t.c=22);case true=>exact UW X hs _
 cases Ae (t.c=6);case true=>exact wV X hs
 cases Ae (t.c=11);case true=>exact sV X hs
 cases Ae (t.c=19);case true=>exact mC X hs
 cases Ae (t.c=20);case true=>exact (uC X hs).nl
 have h:=(X 0).ex S hs;simp only [A0,DG];cases Ae (t.c=16);case true=>exact ((C1.ex X (h.C _ _ _) 1).C _ _ _).nl
 cases Ae (t.c=17);case true=>exact (h.C _ _ _).nl
 cases Ae (t.c=21);case true=>exact (h.C _ _ _).nl
 exact h.nl
theorem vT(X:∀ i,Ht (x i)):Ht (Pz F t x) :=
 ⟨fun S h=>dM X h,fun S h=>cB X h,fun S h=>xD X h,fun S h=>qA X h,fun S h=>XB X h,fun S h=>cE X h,fun S h=>XR X h,fun f S h=>vR X f h⟩
end
theorem qI(F:Nd):∀ t,Ht (Ah F t):=by
 refine Nd.ao fun t ih=>?_;rw [GL];refine vT fun i=>?_;by_cases h:i<t.b.length;rw [Dz h,D6 h];exact ih _ (AN h);rw [Ax];simp only [Cl,E1];rw [DV O];exact oS
def G5(y:Bu):Prop:=y.c=4∨y.name=[]
def EV(S:An):Prop:=∀ v∈S.q,G5 v.typ
theorem KI:G5 AA:=.inr rfl
theorem Qx(t:Nd):G5 (BF t).1:=by
 unfold BF;cases !Kd t;case true=>exact KI
 cases Ae (t.c=9);case true=>exact KI
 cases Ae (t.c=8)
 case true =>
  cases FE t.i;exact KI;exact .inl rfl
 cases Ae (t.c=7)
 case true =>
  cases Is t.i;exact KI;exact .inr rfl
 exact KI
theorem T1{α β:Type}{f:α→Option β}:∀ (l:List α) (r:List β),Hv f l=some r→∀ y∈r,∃ x∈l,f x=some y
 | [],r,h,y,hy=>by injection h with h;subst h;cases hy
 | x::l,r,h,y,hy=>by
  rw [Hv] at h
  cases h1:f x with
  | none=>rw [h1] at h;cases h
  | some b =>
   cases h2:Hv f l with
   | none=>rw [h1,h2] at h;cases h
   | some r' =>
    rw [h1,h2] at h;injection h with h;subst h;rcases List.mem_cons.1 hy with q|q;subst q;exact ⟨x,Gx,h1⟩;obtain ⟨z,hz,e⟩:=T1 l r' h2 y q;exact ⟨z,Gz _ hz,e⟩
theorem kN(F:Nd)(s:List UInt8):∀ f∈(Gf F s).1,G5 f.ty:=by
 unfold Gf;split;intro f hf;cases hf;split;intro f hf;cases hf;rename_i l hl;intro f hf;obtain ⟨d,_,e⟩:=T1 _ _ hl f hf;unfold GY at e;cases hq:(!Ae (d.c=3) || !Ae ((d.b.length:Int)=1));rw [hq] at e;cases h2:(BF (Ob d)).2;rw [h2] at e;cases e;rw [h2] at e;injection e with e;subst e;exact Qx _;rw [hq] at e;cases e
theorem qM(op:List UInt8)(a b:Bu):G5 (Gm op a b).1:=by
 unfold Gm;repeat' (first|exact .inr rfl|(split)|(cases Er _ op <;> simp only [A8,A0])|(cases (BP _ _&&BP _ _) <;> simp only [A8,A0])|(cases Nt a b <;> simp only [A8,A0]))
theorem cQ{q:Bool}{a b:Bu}(ha:G5 a)(hb:G5 b):G5 (bif q then a else b):=by cases q <;> assumption
theorem pG{q:Bool}{a b:List Bu×Bu×Bool}(ha:G5 a.2.1)(hb:G5 b.2.1):G5 (bif q then a else b).2.1:=by cases q <;> assumption
theorem sB(y:Bu)(s:List UInt8):G5 (Dw y s).2.1:=by
 unfold Dw;repeat' (first|exact .inr rfl|refine pG ?_ ?_)
theorem fW(d:Nd):G5 (Kk d):=cQ (.inr rfl) (.inr rfl)
theorem bC(F:Nd){S:An}(hs:EV S)(n:Nd):G5 (CE F S n).1.ty:=by
 unfold CE
 cases h:Fc S.q n.i with
 | some v =>
  have hm:v∈S.q:=FP.1 (Lz h);exact hs v hm
 | none =>
  dsimp only;cases Ae (0≤(Bk F 6 n.i).2);cases Ae (0≤(Bk F 4 n.i).2);exact KI;exact fW _;exact Qx _
structure MS (c:GT):Prop where
  ex:∀ S,DX S→EV S→G5 (c.ex S).1.ty
  w:∀ S,DX S→EV S→G5 (c.w S).1.1.ty
  rcv:∀ S,DX S→EV S→G5 (c.rcv S).1.ty
  s:∀ S,DX S→EV S→G5 (c.s S).1.2.2
  st:∀ S,DX S→EV S→EV (c.st S).2
theorem hU:MS PB:=⟨fun S _ _=>KI,fun S _ _=>KI,fun S _ _=>KI,fun S _ _=>KI,fun S _ h=>h⟩
theorem Cm.can{S T:An}(h:Cm S T)(k:EV S):EV T:=fun v hv=>k v (h.q▸hv)
theorem TK(s:List UInt8){y:Bu}(a:Int){S:An}(h:EV S)(hy:G5 y):EV (GF s y a S):=fun v hv=>by
 have hv:v∈S.q++[⟨s,y,Ed S,S.n,S.k⟩]:=hv;rcases Fy.1 hv with q|q;exact h v q;rw [HZ.1 q];exact hy
section
variable {F t:Nd} {x:Nat→GT}
theorem Ua(X:∀ i,MS (x i)){S:An}(hs:DX S)(hc:EV S):G5 (Ew F t x S).1.1.ty:=by
 unfold Ew;dsimp only;cases Ae (((x 0).ex S).1.ty.c=4);exact KI;simp only [A8];split;rename_i f hf;exact kN F _ f (Lz hf);exact KI
theorem sR(X:∀ i,MS (x i)){S:An}(hs:DX S)(hc:EV S):G5 (Hp F t x S).1.ty:=by
 unfold Hp;cases Ae (t.c=27);cases Ae (t.c=28);exact KI;exact Ua X hs hc;exact bC F hc t
theorem mT:G5 (KG t):=cQ (.inr rfl) (.inr rfl)
theorem vM(X:∀ i,MS (x i)){S:An}(hs:DX S)(hc:EV S):G5 (FC t x S).1.ty:=by
 unfold FC;dsimp only;repeat' (first|exact .inr rfl|exact mT|exact qM _ _ _|(generalize Ae (t.c=_)=q;cases q <;> simp only [A8,A0]))
theorem kG(X:∀ i,MS (x i)){S:An}(hs:DX S)(hc:EV S):G5 (Ek F t x S).1.ty:=by
 unfold Ek;cases Ae (t.c=24);case true=>exact .inr rfl
 cases Ae (t.c=25);case true=>exact .inr rfl
 cases Ae (t.c=26);case true=>exact .inr rfl
 cases Ae (t.c=38);case true=>exact .inr rfl
 cases Ae (t.c=30);case true=>exact (X 0).s S hs hc
 cases Ae (t.c=27);case true=>exact bC F hc t
 cases Ae (t.c=28);case true=>exact Ua X hs hc
 cases Ae (t.c=34);case true=>exact .inl rfl
 exact vM X hs hc
theorem zB(X:∀ i,MS (x i)){S:An}(hs:DX S)(hc:EV S):G5 (FR F t x S).1.2.2:=by
 unfold FR;dsimp only;cases Ae (t.c=28)&&((x 0).rcv S).2;simp only [A0];cases Ae (t.c=27)&&((CE F S t).2&&Ae ((CE F S t).1.ref=3));exact KI;exact Qx _;exact sB _ _
theorem kS(B':∀ i,G3 (x i))(X:∀ i,MS (x i))(HS:∀ S,DX S→Cm S (Ek F t x S).2){S:An}(hs:DX S)(hc:EV S):EV (DH F t x S).2:=by
 unfold DH;dsimp only;cases Ae (t.c=10);case true=>exact (VL B' hs).can hc
 cases Ae (t.c=18);case true=>exact (Uo B' hs).can hc
 cases Ae (t.c=12);case true=>exact (ZR B' hs).can hc
 cases Ae (t.c=22);case true=>exact (Rl B' hs _).can hc
 cases Ae (t.c=6)
 case true =>
  show EV (Iv F t x S).2;unfold Iv;dsimp only;cases Ae ((V t 1).c=9);exact TK _ _ (((Cm.ex B' (Rz F _ S) hs 1).C _ _ _).can hc) (Qx _);exact TK _ _ ((Rz F _ S).can hc) (Qx _)
 cases Ae (t.c=11);case true=>exact TK _ _ ((((B' 0).ex S hs).C _ _ _).can hc) ((X 0).ex S hs hc)
 cases Ae (t.c=19);case true=>exact (YR B' hs).can hc
 cases Ae (t.c=20);case true=>exact (aM B' hs).can hc
 have h:=(B' 0).ex S hs;simp only [A0,DG];cases Ae (t.c=16);case true=>exact ((Cm.ex B' (h.C _ _ _) hs 1).C _ _ _).can hc
 cases Ae (t.c=17);case true=>exact (h.C _ _ _).can hc
 cases Ae (t.c=21);case true=>exact (h.C _ _ _).can hc
 exact h.can hc
theorem wJ(B':∀ i,G3 (x i))(X:∀ i,MS (x i)):MS (Pz F t x) :=
 ⟨fun S h k=>kG X h k,fun S h k=>Ua X h k,fun S h k=>sR X h k,fun S h k=>zB X h k,fun S h k=>kS B' X (fun S h=>T3 B' h) h k⟩
end
theorem OW(F:Nd):∀ t,MS (Ah F t):=by
 refine Nd.ao fun t ih=>?_;rw [GL];refine wJ (fun i=>Ux F t i) fun i=>?_;by_cases h:i<t.b.length;rw [Dz h,D6 h];exact ih _ (AN h);rw [Ax];simp only [Cl,E1];rw [DV O];exact hU
theorem OQ{y:Bu}(h:G5 y){k:Int}(hk:k≠4):BP y ⟨k,[]⟩=Ae (y.c=k):=by
 unfold BP;cases hq:Ae (y.c=k);rfl;have:=AV hq;rcases h with h|h;omega;rw [h];rfl
def Bb(S T:An):Prop:=S.ee≠0→T.ee=S.ee∧T.ea=S.ea
theorem Bb.refl(S:An):Bb S S:=fun _=>⟨rfl,rfl⟩
theorem Bb.trans{S T j':An}(h:Bb S T)(k:Bb T j'):Bb S j':=fun hn=>by
 obtain ⟨a,b⟩:=h hn;obtain ⟨c,d⟩:=k (by rw [a];exact hn);exact ⟨c.trans a,d.trans b⟩
theorem BZ.e{d:Nat}{S T:An}(h:BZ d S T):Bb S T:=h.ers
theorem Bb.am{S T:An}(h:Bb S T)(a e:Int):Bb S (DI a e T):=h.trans (Y2 a e T).e
theorem Bb.C{S T:An}(h:Bb S T)(b:Bool)(a e:Int):Bb S (AH b a e T):=h.trans (RD b a e T).e
theorem Bb.bh{S T j':An}{q:Bool}(h:Bb S T)(k:Bb S j'):Bb S (bif q then T else j'):=by cases q <;> assumption
theorem Bb.br{α:Type}{S:An}{q:Bool}{a b:α×An}(h:Bb S a.2)(k:Bb S b.2):Bb S (bif q then a else b).2:=by cases q <;> assumption
section
variable {F t:Nd} {x:Nat→GT}
theorem Bb.ex(X:∀ i,GH (x i) (DM t i)){S T:An}(h:Bb S T)(i:Nat):Bb S ((x i).ex T).2:=h.trans ((X i).ex T).e
theorem Bb.p(X:∀ i,GH (x i) (DM t i)){S T:An}(h:Bb S T)(i:Nat):Bb S ((x i).p T).2:=h.trans ((X i).p T).e
theorem Bb.a6{S T:An}(h:Bb S T)(s:List UInt8)(y:Bu)(a:Int):Bb S (GF s y a T):=h.trans (RE s y a T).e
theorem T8(X:∀ i,GH (x i) (DM t i))(ps:List Bu)(S:An)(i:Nat):∀ k,Bb (Eo t x ps S i).2 (Eo t x ps S (i+k)).2
 | 0=>Bb.refl _
 | k+1=>((T8 X ps S i k).ex X (i+k+1)).C _ _ _
theorem WQ(X:∀ i,GH (x i) (DM t i))(S:An)(i:Nat):∀ k,Bb (CR t x S i).2.2 (CR t x S (i+k)).2.2
 | 0=>Bb.refl _
 | k+1=>(WQ X S i k).trans ((X (i+k)).cas _ _).e
end
structure Ga (B:Nat→Prop) (w w':Ad):Prop where
  os:w'.os=w.os
  tape:w'.tape=w.tape
  output:w'.output=w.output
  size:w.heap.size≤w'.heap.size
  block:∀ k,k<w.heap.size→¬ B k→w'.heap[k]? = w.heap[k]?
theorem Ga.refl(B:Nat→Prop)(w:Ad):Ga B w w:=⟨rfl,rfl,rfl,HN _,fun _ _ _=>rfl⟩
theorem Ga.trans{B:Nat→Prop}{a b c:Ad}(h:Ga B a b)(k:Ga B b c):Ga B a c :=
 ⟨k.os.trans h.os,k.tape.trans h.tape,k.output.trans h.output,Dg h.size k.size,fun i hi hn=>(k.block i (Ik hi h.size) hn).trans (h.block i hi hn)⟩
theorem Ga.J{B:Nat→Prop}{w w':Ad}(h:G w w'):Ga B w w':=⟨h.os,h.tape,h.output,h.size,fun k hk _=>h.block hk⟩
theorem Ga.g{B:Nat→Prop}{w w':Ad}(h:Ga B w w')(hB:∀ k,B k→w.heap.size≤k):G w w':=⟨h.os,h.tape,h.output,h.size,fun k hk=>h.block k hk fun hb=>by have:=hB k hb;omega⟩
theorem yU{B:Nat→Prop}{w0 w w':Ad}(g:G w0 w)(h:Ga B w w')(hB:∀ k,B k→w0.heap.size≤k):G w0 w' :=
 ⟨h.os.trans g.os,h.tape.trans g.tape,h.output.trans g.output,Dg g.size h.size,fun k hk=>(h.block k (Ik hk g.size) fun hb=>by have:=hB k hb;omega).trans (g.block hk)⟩
theorem OO{B:Nat→Prop}{w0 w w':Ad}{b:Nat}(h:Ga B w0 w)(hg:w.grownBy w' (some b))(hb:B b∨w0.heap.size≤b):Ga B w0 w' :=
 ⟨hg.os.trans h.os,hg.tape.trans h.tape,hg.output.trans h.output,Dg h.size hg.size,fun k hk hn=>(hg.block k (Ik hk h.size) (fun e=>by
 injection e with e;subst e;rcases hb with hb|hb;exact hn hb;omega)).trans (h.block k hk hn)⟩
structure E2 (n:Nat) (w w':Ad):Prop where
  below:Below n w w'
  cells:∀ (k:Nat) (o:Obj),w.heap[k]? = some o→o.isCells=true→w'.heap[k]? = some o
theorem E2.refl(n:Nat)(w:Ad):E2 n w w:=⟨Below.refl _ _,fun _ _ h _=>h⟩
theorem E2.trans{n:Nat}{a b c:Ad}(h:E2 n a b)(k:E2 n b c):E2 n a c:=⟨h.below.trans k.below,fun i o hi hc=>k.cells i o (h.cells i o hi hc) hc⟩
theorem E2.J{n:Nat}{a b:Ad}(h:G a b)(hn:n≤a.heap.size):E2 n a b:=⟨Below.mono h hn,fun k o hk _=>(h.block (GB.1 hk).1).trans hk⟩
theorem E2.mono{n m:Nat}{a b:Ad}(h:E2 n a b)(hm:m≤n):E2 m a b:=⟨h.below.mono hm,h.cells⟩
theorem E2.size{n:Nat}{a b:Ad}(h:E2 n a b):a.heap.size≤b.heap.size:=h.below.size
theorem QS{n:Nat}{w:Ad}{l:Nat}{o:Obj}(o':Obj)(hl:w.heap[l]? = some o)(ho:o.isCells=false)(hn:n≤l):E2 n w (w.putObj l o') :=
 ⟨⟨rfl,rfl,rfl,by simp,fun k hk=>World.putObj_heap_other O⟩,fun k o2 hk hc=>by
 by_cases e:k=l;subst e;rw [hl] at hk;injection hk with hk;subst hk;rw [ho] at hc;cases hc;exact (World.putObj_heap_other e).trans hk⟩
theorem mW{w0 w w':Ad}{n:Nat}(g:G w0 w)(h:E2 n w w')(hn:w0.heap.size≤n):G w0 w':=Below.trans g (h.below.mono hn)
theorem Av.gi{w w':Ad}{n b:Nat}{e:Aw}{l:List Ak}(h:Av w b e l)(g:E2 n w w'):Av w' b e l:=g.cells b _ h rfl
theorem jY{w w':Ad}{n:Nat}{a:Addr}{v:Ak}(h:w.cell? a=some v)(g:E2 n w w'):w'.cell? a=some v:=by
 obtain ⟨o,ho,hc⟩:=cells_of_cell h;exact (Dt ((g.cells _ o ho hc).trans ho.symm)).trans h
theorem Cv.gi{w w':Ad}{n b o:Nat}{l:List Ak}(h:Cv w b o l)(g:E2 n w w'):Cv w' b o l:=fun j v hj=>jY (h j v hj) g
theorem Av.gb{w w':Ad}{B:Nat→Prop}{b:Nat}{e:Aw}{l:List Ak}(h:Av w b e l)(g:Ga B w w')(hb:¬ B b):Av w' b e l:=(g.block b h.lt hb).trans h
theorem Cv.gb{w w':Ad}{B:Nat→Prop}{b o:Nat}{l:List Ak}(h:Cv w b o l)(g:Ga B w w')(hb:¬ B b):Cv w' b o l:=fun j v hj=>by
 have h1:=h j v hj;have aa:=World.block_lt_of_cell? w _ h1;exact (Dt (g.block b aa hb)).trans h1
theorem Xt{B:Nat→Prop}{w A C:Ad}{m:Nat}(h:Ga B w A)(g:Below m A C)(hm:w.heap.size≤m):Ga B w C :=
 ⟨g.os.trans h.os,g.tape.trans h.tape,g.output.trans h.output,Dg h.size g.size,fun k hk hn=>(g.block k O).trans (h.block k hk hn)⟩
theorem Xr{β:Type}(f:Nat→β):∀ (ids:List Nat) (id:Nat),(ids.map fun i=>(i,f i)).lookup id=if id∈ids then some (f id) else none
 | [],id=>rfl
 | i::ids,id=>by
  rw [It,List.lookup_cons];by_cases h:id=i;subst h;simp;have:(id == i)=false:=by simpa using h
  rw [this,Xr f ids id];simp [h]
section
variable {P:BH} {n:Nat} {ds:List Deferred} {N T:ET} {X:List (Nat×ET)} {Z:List Bd→ET} {σ:List Ce} {w:Ad}
@[reducible] def mS:ET:=fun _ _ _=>False
@[reducible] def VO:List Bd→ET:=fun _ _ _ _=>False
end
section
variable {P:BH} {Z:List Bd→Act→Ad→Prop} {ops:List Oper} {cl:List Nat} {lv:List Bool} {W0:Ad} {n:Nat} {H':Act→Ad→Prop} {k:Nat} {rest:List Oper} {σ:List Ce} {w:Ad} {d:Nat} {ty:Aw} {pos:String} {after:Array Edge}
end
def NV(w:Ad)(b:Nat)(ks:List Ak):Prop:=∃ es clock,w.heap[b]? = some (.map es clock)∧es.toList.map (·.key)=ks∧∀ x∈es.toList,x.val = .bool true
section
variable {P:BH} {w w':Ad} {b:Nat} {ks:List Ak}
theorem NV.lt(h:NV w b ks):b<w.heap.size:=by
 obtain ⟨es,c,hb,_⟩:=h;exact (GB.1 hb).1
theorem NV.a(h:NV w b ks)(g:G w w'):NV w' b ks:=by
 have hl:=h.lt;obtain ⟨es,c,hb,hk⟩:=h;exact ⟨es,c,(g.block hl).trans hb,hk⟩
theorem NV.A(h:NV w b ks){row:Option Nat}(hg:w.grownBy w' row)(aa:some b≠row):NV w' b ks:=by
 have hl:=h.lt;obtain ⟨es,c,hb,hk⟩:=h;exact ⟨es,c,(hg.block b hl aa).trans hb,hk⟩
theorem cT(w:Ad)(o:Obj):G w (w.alloc o):=⟨rfl,rfl,rfl,by simp,fun k hk=>heap_alloc_old w o hk⟩
end
def Dq(w:Ad)(b:Nat)(es:List (List UInt8×Ak)):Prop:=∃ ms clock,w.heap[b]? = some (.map ms clock)∧ms.toList.map (fun x=>(x.key,x.val))=es.map fun p=>(Co p.1,p.2)
def GN:List (List UInt8×Ak)→List UInt8→Option Ak
 | [],_=>none
 | (k,v)::es,a=>bif Ae (k=a) then some v else GN es a
section
variable {P:BH} {w w':Ad} {b:Nat} {es:List (List UInt8×Ak)}
theorem Dq.lt(h:Dq w b es):b<w.heap.size:=by
 obtain ⟨ms,c,hb,_⟩:=h;exact (GB.1 hb).1
theorem Dq.ac(h:Dq w b es)(e:w'.heap[b]? = w.heap[b]?):Dq w' b es:=by
 obtain ⟨ms,c,hb,hk⟩:=h;exact ⟨ms,c,e.trans hb,hk⟩
theorem Dq.a(h:Dq w b es)(g:G w w'):Dq w' b es:=h.ac (g.block h.lt)
theorem Dq.A(h:Dq w b es){row:Option Nat}(hg:w.grownBy w' row)(aa:some b≠row):Dq w' b es:=h.ac (hg.block b h.lt aa)
theorem Dq.ap(h:Dq w b es){j:Nat}{e:Aw}{l:List Ak}(hB:Av w j e l):b≠j:=fun q=>by
 subst q;obtain ⟨ms,c,hb,_⟩:=h;unfold Av at hB;rw [hb] at hB;injection hB with hB;cases hB
theorem uW(w:Ad):Dq (w.alloc (.map #[] 0)) w.heap.size []:=⟨#[],0,(MapKept.heap_alloc w _).1,rfl⟩
theorem Vz(a:List UInt8):∀ (ms:List MapEntry) (es:List (List UInt8×Ak)) (i:Nat),ms.map (fun x=>(x.key,x.val))=es.map (fun p=>(Co p.1,p.2))→
  (GN es a=none∧Instr.findNow .string (Co a) ms i=some none)∨∃ v j,GN es a=some v∧Instr.findNow .string (Co a) ms i=some (some (j,v))
 | [],es,i,h=>by
  cases es with
  | nil=>exact .inl ⟨rfl,rfl⟩
  | cons p es=>cases h
 | m::ms,es,i,h=>by
  cases es with
  | nil=>cases h
  | cons p es =>
   obtain ⟨k,v⟩:=p;rw [It,It] at h;injection h with h1 h2;injection h1 with h1 h3;have hs:Instr.sameNow .string (Co a) m.key=some ((⟨a.toArray⟩:ByteArray) == ⟨k.toArray⟩):=by rw [h1];rfl
   have hv:m.val=v:=h3;by_cases hk:k=a;subst hk;refine .inr ⟨v,i,by unfold GN;rw [BW rfl];rfl,?_⟩;rw [(MapKept.bytes_beq _ _).2 rfl] at hs;rw [Instr.findNow,hs,hv]
   have hf:((⟨a.toArray⟩:ByteArray) == ⟨k.toArray⟩)=false:=by
    cases q:((⟨a.toArray⟩:ByteArray) == ⟨k.toArray⟩) with
    | false=>rfl
    | true =>
     have q:=(MapKept.bytes_beq _ _).1 q;injection q with q;exact absurd (by have:=congrArg Array.toList q;simpa using this.symm) hk
   rw [hf] at hs;have e:GN ((k,v)::es) a=GN es a:=by show (bif Ae (k=a) then some v else GN es a)=_;rw [Aq hk];rfl
   rw [e,Instr.findNow,hs];exact Vz a ms es (i+1) h2
theorem Zb{k:Aw}(hk:P.underlying k=some .string)(em:Bool)(a:List UInt8)(w:Ad):(Instr.checkKey em 10000 k (Co a)).run P w = .ok () w:=by
 show (Instr.checkKey em (9999+1) k (Co a)).run P w=_;rw [Instr.checkKey];simp only [Sem.run_bind,run_underlying hk,Result.andThen_ok,Sem.run_pure]
theorem fM{k t e:Aw}(hk:P.underlying k=some .string)(ht:P.underlying t=some (.map k e)){z:Ak}(hz:Gc P e=some z)(h:Dq w b es)(a:List UInt8)(ok:Bool) :
 (Instr.lookup t (.map (some b)) (Co a) ok).run P w = .ok (bif ok then .tuple #[(GN es a).getD z,.bool (GN es a).isSome] else (GN es a).getD z) w:=by
 obtain ⟨i,hi,ab⟩:=Ox hz;obtain ⟨ms,c,hb,hm⟩:=h;have aa:=Zb (P:=P) hk ms.isEmpty a w;rcases Vz a ms.toList es 0 hm with ⟨h1,h2⟩|⟨v,j,h1,h2⟩;cases ok <;> simp [Instr.lookup,run_underlying ht,MapKept.run_getObj_map hb,aa,Instr.findKey,run_underlying hk,h2,zeroValue,typeInfo,hi,ab,h1]
 cases ok <;> simp [Instr.lookup,run_underlying ht,MapKept.run_getObj_map hb,aa,Instr.findKey,run_underlying hk,h2,h1]
theorem xZ{k t e:Aw}(hk:P.underlying k=some .string)(ht:P.underlying t=some (.map k e))(h:Dq w b es){a:List UInt8}(hn:GN es a=none)(v:Ak) :
 ∃ w',(Instr.mapUpdate t (.map (some b)) (Co a) v).run P w = .ok () w'∧Dq w' b (es++[(a,v)])∧w.grownBy w' (some b)∧w'.heap.size=w.heap.size:=by
 obtain ⟨ms,c,hb,hm⟩:=h;have ab:=Zb (P:=P) hk false a w;have aa:=(GB.1 hb).1;rcases Vz a ms.toList es 0 hm with ⟨h1,h2⟩|⟨u,j,h1,h2⟩;refine ⟨{ w with heap:=w.heap.setIfInBounds b (.map (ms.push ⟨Co a,v,c⟩) (c+1)) },?_,?_,?_,by simp⟩;simp [Instr.mapUpdate,run_underlying ht,MapKept.run_getObj_map hb,ab,Instr.findKey,run_underlying hk,h2,MapKept.run_setObj_map _ hb];refine ⟨_,_,(by rw [MM,CP rfl,CP aa]),?_⟩;rw [Array.toList_push,List.map_append,hm,List.map_append];rfl
 exact ⟨rfl,rfl,rfl,by simp,fun i _ hi=>by
  have hi:b≠i:=fun e=>hi (by rw [e]);show (w.heap.setIfInBounds b _)[i]? = _;rw [MM,CJ hi]⟩
 rw [hn] at h1;cases h1
end
section
variable {P:BH} {Z:List Bd→Act→Ad→Prop} {ops:List Oper} {cl:List Nat} {lv:List Bool} {W0:Ad} {n:Nat} {H':Act→Ad→Prop} {k:Nat} {rest:List Oper} {σ:List Ce} {w:Ad} {d:Nat} {ty:Aw} {pos:String} {after:Array Edge} {es:List (List UInt8×Ak)}
theorem V6{c:Prop}{wb:Ad}{t kt e b:Nat}{x y:A7}{a:List UInt8}{z:Ak}(hk:P.underlying kt=some .string)(ht:P.underlying t=some (.map kt e))(hz:Gc P e=some z)(h:Dq wb b es)(hx:Bz n σ c x (.map (some b)))(hy:Bz n σ c y (Co a)) :
 DB P n σ c wb (.lookup t x y false) ty ((GN es a).getD z):=.mk fun d pos after gd aa ha hc w1 hg=>by
 have r:=fM hk ht hz (h.a hg) a false;simp [execOp,hx aa ha hc,hy aa ha hc,r]
theorem Z9{c:Prop}{wb:Ad}{t kt e b:Nat}{x y:A7}{a:List UInt8}{z:Ak}(hk:P.underlying kt=some .string)(ht:P.underlying t=some (.map kt e))(hz:Gc P e=some z)(h:Dq wb b es)(hx:Bz n σ c x (.map (some b)))(hy:Bz n σ c y (Co a)) :
 DB P n σ c wb (.lookup t x y true) ty (.tuple #[(GN es a).getD z,.bool (GN es a).isSome]):=.mk fun d pos after gd aa ha hc w1 hg=>by
 have r:=fM hk ht hz (h.a hg) a true;simp [execOp,hx aa ha hc,hy aa ha hc,r]
theorem Pm{t kt e b:Nat}{x y z:A7}{a:List UInt8}{v:Ak}(hb:Nat.beq (Bw cl k) 2=true)(hk:P.underlying kt=some .string)(ht:P.underlying t=some (.map kt e))(hM:Dq w b es)(hn:GN es a=none)(hx:Bz n σ True x (.map (some b)))(hy:Bz n σ True y (Co a))(hz:Bz n σ True z v)
 (h:∀ w1,Dq w1 b (es++[(a,v)])→w.grownBy w1 (some b)→w1.heap.size=w.heap.size→Bv P Z ops cl lv W0 n H' (k+1) rest σ w1) :
 Bv P Z ops cl lv W0 n H' k (⟨none,.mapUpdate t x y z,ty,pos,after,none⟩::rest) σ w:=by
 obtain ⟨w1,r1,r2,r3,r4⟩:=xZ hk ht hM hn v;refine Z6 hb (w':=w1) (fun d pos after g aa ha _=>?_) (h w1 r2 r3 r4);simp [execOp,hx aa ha BN,hy aa ha BN,hz aa ha BN,r1]
theorem Qk{t:Nat}(hb:(!Nat.beq (Bw cl k) 0 && !Nat.beq (Bw cl k) 3&&Nat.blt d n)=true)
  (h:∀ b w1,b=w.heap.size→G w w1→w1.heap.size=w.heap.size+1→Dq w1 b []→Bv P Z ops cl lv W0 n H' (k+1) rest ((d,True,.map (some b)) :: σ) w1) :
  Bv P Z ops cl lv W0 n H' k (⟨some d,.makeMap t none,ty,pos,after,none⟩::rest) σ w :=
 Np hb (w':=w.alloc (.map #[] 0)) (fun d pos after g a ha _=>by simp [execOp,Instr.makeMap]) (fun _=>cT w _) (h _ _ rfl (cT w _) BI (uW w))
end
def DL(kd:Int)(f:Nat→Nd→Ak):List Nd→Nat→List (List UInt8×Ak)
 | [],_=>[]
 | d::l,k=>bif Ae (d.c=kd) then (d.i,f k d)::DL kd f l (k+1) else DL kd f l k
def Gs(kd:Int)(l:List Nd):Nat:=(l.filter fun d=>Ae (d.c=kd)).length
theorem OR(kd:Int)(d:Nd)(l:List Nd):Gs kd (d::l)=(bif Ae (d.c=kd) then 1 else 0)+Gs kd l:=by
 unfold Gs;cases h:Ae (d.c=kd);rw [Ns (by simp [h])];simp;rw [NI (by simpa using h),Ic];show _=1+_;omega
theorem oJ(kd:Int)(l:List Nd)(d:Nd):Gs kd (l++[d])=Gs kd l+(bif Ae (d.c=kd) then 1 else 0):=by
 unfold Gs;rw [List.filter_append,LD];cases h:Ae (d.c=kd);rw [Ns (by simp [h])];rfl;rw [NI (by simpa using h)];rfl
theorem QN(kd:Int)(f:Nat→Nd→Ak):∀ (l:List Nd) (k:Nat),(DL kd f l k).length=Gs kd l
 | [],k=>rfl
 | d::l,k=>by
  rw [OR];unfold DL;cases Ae (d.c=kd);rw [A0,QN kd f l k];show _=0+_;omega;rw [A8,Ic,QN kd f l (k+1)];show _=1+_;omega
theorem Uv(kd:Int)(f:Nat→Nd→Ak)(d:Nd):∀ (l:List Nd) (k:Nat),DL kd f (l++[d]) k=DL kd f l k++(bif Ae (d.c=kd) then [(d.i,f (k+Gs kd l) d)] else [])
 | [],k=>by
  show (bif Ae (d.c=kd) then (d.i,f k d)::[] else [])=_;cases Ae (d.c=kd) <;> rfl
 | e::l,k=>by
  rw [OR];show (bif Ae (e.c=kd) then (e.i,f k e)::DL kd f (l++[d]) (k+1) else DL kd f (l++[d]) k)=(bif Ae (e.c=kd) then (e.i,f k e)::DL kd f l (k+1) else DL kd f l k)++_;rw [Uv kd f d l k,Uv kd f d l (k+1)];cases Ae (e.c=kd);simp only [A0,Nat.zero_add];simp only [A8,List.cons_append];rw [show k+(1+Gs kd l)=k+1+Gs kd l by omega]
theorem Uy(kd:Int)(s:List UInt8):∀ (l:List Nd) (k:Nat),(GC kd s l k).2 = -1∨(k:Int)≤(GC kd s l k).2
 | [],k=>.inl rfl
 | d::l,k=>by
  unfold GC;cases Ae (d.c=kd);exact Uy kd s l k;cases Ae (d.i=s);rcases Uy kd s l (k+1) with h|h;exact .inl h;exact .inr (by show (k:Int)≤(GC kd s l (k+1)).2;omega);exact .inr (Int.le_refl _)
theorem Qr(kd:Int)(f:Nat→Nd→Ak)(s:List UInt8):∀ (l:List Nd) (k:Nat),GN (DL kd f l k) s=bif Ae (0≤(GC kd s l k).2) then some (f (GC kd s l k).2.toNat (GC kd s l k).1) else none
 | [],k=>rfl
 | d::l,k=>by
  unfold DL GC;cases Ae (d.c=kd);exact Qr kd f s l k;show (bif Ae (d.i=s) then some (f k d) else GN (DL kd f l (k+1)) s)=_;cases Ae (d.i=s);exact Qr kd f s l (k+1);show _=bif Ae (0≤(k:Int)) then some (f (k:Int).toNat d) else none;rw [BW (Int.natCast_nonneg k)];rfl
theorem WJ{kd:Int}{f:Nat→Nd→Ak}{s:List UInt8}:∀ {l:List Nd} {k:Nat},(∀ d∈l,d.i≠s)→GN (DL kd f l k) s=none
 | [],k,_=>rfl
 | d::l,k,h=>by
  unfold DL;cases Ae (d.c=kd);exact WJ fun e he=>h e (Gz _ he);show (bif Ae (d.i=s) then some (f k d) else GN (DL kd f l (k+1)) s)=_;rw [Aq (h d Gx)];exact WJ fun e he=>h e (Gz _ he)
def Kl(l:List Nd):List (List UInt8×Ak):=l.map fun d=>(d.i,.bool true)
theorem ZL(l:List Nd)(s:List UInt8):GN (Kl l) s=bif l.any (fun d=>Ae (d.i=s)) then some (.bool true) else none:=by
 induction l with
 | nil=>rfl
 | cons d l ih =>
  show (bif Ae (d.i=s) then some (.bool true) else GN (Kl l) s)=_;rw [ih,List.any_cons];cases Ae (d.i=s) <;> rfl
theorem iW(l:List Nd)(s:List UInt8):(GN (Kl l) s).getD (.bool false) = .bool (l.any fun d=>Ae (d.i=s)):=by
 rw [ZL];cases l.any fun d=>Ae (d.i=s) <;> rfl
theorem P3(a b:List DD)(s:List UInt8):Fc (a++b) s=(Fc b s).or (Fc a s):=by
 unfold Fc;rw [Ke,List.find?_append]
theorem Xd(a:List DD)(v:DD)(s:List UInt8):Fc (a++[v]) s=bif Ae (v.name=s) then some v else Fc a s:=by
 rw [P3];unfold Fc;show ((bif Ae (v.name=s) then some v else none:Option DD)).or _=_;cases Ae (v.name=s) <;> rfl
theorem mF{sc:List (List DD)}{s:List UInt8}{i k:Nat}(hi:i<sc.length)(hk:k<sc[i].length)(h1:Fc (sc.drop (i+1)).flatten s=none)(h2:Fc (sc[i].drop (k+1)) s=none)(h3:sc[i][k].name=s):Fc sc.flatten s=some sc[i][k]:=by
 have e:sc.flatten=(sc.take i).flatten++((sc[i].take k++[sc[i][k]])++sc[i].drop (k+1))++(sc.drop (i+1)).flatten:=by
  conv=>lhs;rw [← Ny i sc,IG hi]
  rw [List.flatten_append,List.flatten_cons,Ih,← List.take_succ_eq_append_getElem hk,Ny,← Ih]
 rw [e,P3,h1,G0,P3,P3,h2,G0,Xd,BW h3];rfl
theorem gZ{sc:List (List DD)}{s:List UInt8}{i k:Nat}(hi:i<sc.length)(hk:k<sc[i].length)(h2:Fc (sc[i].drop (k+1)) s=none)(h3:sc[i][k].name≠s):Fc (sc[i].drop k) s=none:=by
 rw [IG hk,← List.singleton_append,P3,h2,G0];show Fc ([]++[sc[i][k]]) s=none;rw [Xd,Aq h3];rfl
theorem kP{sc:List (List DD)}{s:List UInt8}{i:Nat}(hi:i<sc.length)(h1:Fc (sc.drop (i+1)).flatten s=none)(h2:Fc sc[i] s=none):Fc (sc.drop i).flatten s=none:=by
 rw [IG hi,List.flatten_cons,P3,h1,G0,h2]
end Go.Rk
