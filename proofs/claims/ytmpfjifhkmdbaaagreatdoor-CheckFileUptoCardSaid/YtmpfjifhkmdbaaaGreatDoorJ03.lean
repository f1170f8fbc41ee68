/- Texts. Conditions: each its own. -/
import Derived.Test.YtmpfjifhkmdbaaaGreatDoorJ02
import Derived.Test.YtmpfjifhkmdbaaaGreatDoorJ01
import Derived.MapKept
set_option linter.unusedSimpArgs false
set_option linter.unusedVariables false
set_option maxHeartbeats 16000000
set_option maxRecDepth 100000
open Array renaming getElem?_eq_some_iff→GN,getElem?_setIfInBounds→LR
open Bool renaming and_assoc→Ao,and_eq_true→Cj,and_eq_true_iff→Dr,true_and→E0,false_and→EY,eq_iff_iff→FI,or_eq_false_iff→F3,or_false→Gc,and_true→Ha,and_comm→Ht,and_left_comm→Kh
open Go renaming World→Ae,TypeId→AD,PanicEntry→Bf,Operand→Bl,Program→AJ,Value→Aj
open List renaming getElem_mem→AA,all_eq_true→Bu,getD_eq_getElem?_getD→Cq,all_eq_false→CR,getElem_of_mem→CW,mem_range→Du,getElem?_eq_none→DQ,getElem?_eq_getElem→Ei,range→Eo,getElem?_map→Ez,mem_append→E8,mem_reverse→E6,mem_cons_self→Gq,mem_cons_of_mem→Gm,range_succ→Hp,mem_singleton→Ip,append_assoc→IH,length_cons→Iz,drop_eq_getElem_cons→IM,length_eq_zero_iff→Ju,length_eq_one_iff→Jz,mem_of_mem_take→Lo,length_reverse→Kp,dropWhile_sublist→KJ,reverse_append→Kn,length_append→Kv,mem_of_find?_eq_some→L3,filter_cons_of_neg→LN,filter_cons_of_pos→NR,take_append_drop→NP
open Nat renaming zero_le→A2,not_lt_zero→CC,le_trans→D4,le_refl→Hv,lt_of_lt_of_le→LX
open Option renaming none_or→GZ
open Decidable renaming decide→Ac
namespace Go.Proofs
end Go.Proofs
namespace Go.Rk
open Go.Proofs
open Go Go.RowKit
def Aa(t:Nd)(i:Nat):Nd:=t.j.getD i Fr
theorem Em{t:Nd}{i:Nat}(h:i<t.j.length):Aa t i=t.j[i]:=by simp [Aa,Cq,Ei h]
def Fb(t:Nd)(qs:List (Int→Bool)):Bool:=Ac (t.j.length=qs.length)&&(Eo qs.length).all fun i=>(qs.getD i (fun _=>false)) (Aa t i).k
def HU(t:Nd)(q:Int→Bool):Bool:=t.j.all fun k=>q k.k
theorem Lu(t:Nd)(p:Option Addr)(c:Nat)(D:Nat→Prop)(qs:List (Int→Bool))(vs:List Aj)(b o ae:Nat)(w:Ae)(hk:Bv w D t.j (.slice p t.j.length c))(hl:vs.length=qs.length)(hR:CQ w b o vs)
 (hF:∀ i (h:i<vs.length),Mz An (qs.getD i (fun _=>false)) vs[i] w) (hc:t.j.length≤1000000):Bz An 103 #[Cd t (.slice p t.j.length c),.slice (some ⟨b,o,none⟩) qs.length ae] w fun v w'=>v = .bool (Fb t qs)∧G w w':=by
 have g:=G.refl w;obtain ⟨p',c',hpe,_,ag⟩:=hk;injection hpe with hpe _ aj;subst hpe aj;refine Cu 30 [0,1] Tryz.func103 ?_;refine CT fun _ w2 _ _ g E=>?_;refine Aw (fun h1=>?_) fun h1=>?_
 have hN:Fb t qs=false:=by
  have:¬ t.j.length=qs.length:=by simp at h1;omega
  rw [Fb,Aq this];rfl
 refine AN ?_;rw [hN];exact ⟨rfl,g⟩;have ad:t.j.length=qs.length:=by simp at h1;omega
 refine CJ (Al (Am (Am (Au (Ap J (EI Ub J (Ap J (Ai (Al (DF (Hi (fun (i:Nat) u1=>(i≤qs.length∧∀ j,j<i→(qs.getD j (fun _=>false)) (Aa t j).k=true)∧G w2 u1) [(2,True,_),(13,True,_),(14,True,_)] (fun (i:Nat)=>[(15,True,.int .i64 i)]) (fun (i:Nat)=>qs.length-i) (0) ⟨⟨A2 _,fun j hj=>absurd hj (CC j)⟩,G.refl _⟩ Bp ?_)))))))))));rintro i u1 ⟨ac,aa⟩;have g:=g.trans aa;replace E:=E.A aa;refine Am (Au (GG J J (Ai (Al (Am (Cv J (fun h2=>?_) (fun h2=>?_)))))));have h2:i<qs.length:=by simp only [BM] at h2;omega
 obtain ⟨f,fs,cs,ai,af,hf⟩:=hF i O;have hv:=hR i _ (Ei (show i<vs.length by omega));rw [ai] at hv;obtain ⟨b2,o2,rfl,hD,xs,ah,hX⟩:=ag O;obtain ⟨p2,c2,hcell,_⟩:=JD ah hX (show i<t.j.length by omega);rw [← Em] at hcell;refine CJ (Al (Am (DF (Am (Au (Ap J (Hn Ub J J O (AM UQ J (by have:=SA g hv;simpa using this) (Bj J (Bj J (Ai (Al (Am (Au (Ap J (AE AY J (AM Bh J (E.J.y J) (?_))))))))))))))))));refine Ap J (Hn AC J J O (AE FP J (AM Cb J ((hcell.A g) 0 _ J) (F0 J (BF af (Ab J) (Cn J CI) J) (hf _ _ g) (fun ak ab=>?_)))));have g:=g.trans ab;have aa:=aa.trans (ab);replace E:=E.A ab;refine Aw (fun h3=>?_) fun h3=>?_;(try simp only [BH] at h3);refine Cy ?_;rw [eq_comm,Fb,BU ad,E0,CR];exact ⟨i,Du.2 h2,by simpa using h3⟩;refine Ad ?_;refine Ci [15,2,13,14] ?_;refine Ai (fun a ha=>?_);refine ⟨i+1,ha,⟨⟨h2,fun j hj=>?_⟩,aa⟩,O⟩;by_cases e:j=i;subst e;simpa using h3;exact ac.2 j O;refine Cy ?_;rw [eq_comm,Fb,BU ad,E0,Bu];intro j hj;exact ac.2 j (by have:=Du.1 hj;simp only [CB] at h2;omega)
theorem So(t:Nd)(p:Option Addr)(c:Nat)(D:Nat→Prop)(q:Int→Bool)(v:Aj)(w:Ae)(hk:Bv w D t.j (.slice p t.j.length c))(hF:Mz An q v w)(hc:t.j.length≤1000000):Bz An 102 #[Cd t (.slice p t.j.length c),.int .i64 0,v] w fun v w'=>v = .bool (HU t q)∧G w w':=by
 have g:=G.refl w;obtain ⟨p',c',hpe,_,af⟩:=hk;injection hpe with hpe _ ah;subst hpe ah;obtain ⟨f,fs,cs,rfl,ae,hf⟩:=hF;refine Cu 29 [0,1,2] Tryz.func102 ?_;refine CT fun _ w3 _ _ g E=>?_;refine Bj J (Ai (Al (Am (Am (Au (AE AY J (AM Bh J (E.J.y J) (EI AC J (Ap J (GG J J (Ai (Al (Cv J (fun h1=>?_) (fun h1=>?_))))))))))))))
 ·exfalso;simp only [BM] at h1;omega
  done
 refine CJ (Al (Am (Am (Au (AE AY J (AM Bh J (E.J.y J) (Ap J (AR J (fun _=>wF AC (Ab J) (Ab J)) (EI AC J (Ap J (Ai (Al (DF (Hi (fun (i:Nat) u1=>(i≤t.j.length∧∀ j,(h:j<t.j.length)→j<i→q t.j[j].k=true)∧G w3 u1) [(2,True,_),(17,True,_),(18,True,_)] (fun (i:Nat)=>[(19,True,.int .i64 i)]) (fun (i:Nat)=>t.j.length-i) (0) ⟨⟨A2 _,fun j _ hj=>absurd hj (CC j)⟩,G.refl _⟩ Bp ?_))))))))))))));rintro i u1 ⟨ac,aa⟩;have g:=g.trans aa;replace E:=E.A aa;refine Am (Au (GG J J (Ai (Al (Am (Cv J (fun h2=>?_) (fun h2=>?_)))))))
 ·have h2:i<t.j.length:=by simp only [BM] at h2;omega
  obtain ⟨b2,o2,rfl,hD,xs,ag,hX⟩:=af O;obtain ⟨p2,c2,hcell,_⟩:=JD ag hX h2;refine CJ (Al (Am (DF (Am (Au (Hn AC J J O (Ct A3 J J (hcell.A g) (A5 fun _ _ ga _ g E=>?_))))))));have ad:=ga.ge aa;have aa:=aa.trans (ga.g);refine AS fun _ ga _ g E=>?_;first|replace aa:=BJ aa ga O|clear aa|skip
  refine Ad ?_;refine F0 J (BF ae (Ab J) (Cn J CI) J) (hf _ _ g) (fun ai ab=>?_);have g:=g.trans ab;have aa:=aa.trans (ab);replace E:=E.A ab;refine Aw (fun h3=>?_) fun h3=>?_
  ·(try simp only [BH] at h3)
   refine Cy ?_;rw [eq_comm,HU,CR];exact ⟨_,AA h2,by simpa using h3⟩
  refine Ad ?_;refine Ci [19,2,17,18] ?_;refine Ai (fun a ha=>?_);refine ⟨i+1,ha,⟨⟨h2,fun j h hj=>?_⟩,aa⟩,O⟩;by_cases e:j=i
  · subst e;simpa using h3
  · exact ac.2 j h O
 refine Cy ?_;rw [eq_comm,HU,Bu];intro x hx;obtain ⟨j,hj,rfl⟩:=CW hx;exact ac.2 j hj (by simp only [CB] at h2;omega)
def My(t:Nd):Bool:=bif Cs [9,16] t.k then true
 else bif Cs [13,11] t.k then Ac (((t.j.length:Int)-1)=0)&&Ac ((Aa t 0).k=33)
 else bif Ac (t.k=12) then Ac (((t.j.length:Int)-1)=1)&&Ac ((Aa t 1).k=33) else false
theorem Ba{w:Ae}{D:Nat→Prop}{t:Nd}{p:Option Addr}{c:Nat}(hk:Bv w D t.j (.slice p t.j.length c)){i:Nat}(h:i<t.j.length):p=some ⟨E5 p,Gu p,none⟩∧∃ p' c',CQ w (E5 p) (Gu p+i*9) (De (Aa t i) (.slice p' (Aa t i).j.length c'))∧Bv w D (Aa t i).j (.slice p' (Aa t i).j.length c'):=by
 obtain ⟨p',c',hpe,_,ac⟩:=hk;injection hpe with hpe _ ab;subst hpe ab;obtain ⟨b2,o2,rfl,hD,xs,aa,hX⟩:=ac O;refine ⟨rfl,?_⟩;rw [Em h];exact JD aa hX h
theorem Afs(t:Nd)(p:Option Addr)(c:Nat)(D:Nat→Prop)(w:Ae)(hk:Bv w D t.j (.slice p t.j.length c))(hc:t.j.length≤1000000):Bz An 108 #[Cd t (.slice p t.j.length c)] w fun v w'=>v = .bool (My t)∧G w w':=by
   have g:=G.refl w
   refine Cu 38 [0] Tryz.func108 ?_
   refine CT fun _ _ _ _ g E=>?_
   refine Ad ?_
   refine' A1 [1,2,3,9] (fun ab=>?y1) (Al ?n1)
   case y1 =>
    refine Ad ?_
    refine Ci [10,1,2,3,9] ?_
    exact Ai A0
   case n1 =>
    refine Aw (fun h2=>?_) fun h2=>?_
    · have h2:(Cs [9,16] t.k)=true:=h2
      refine Cy ?_
      unfold My;simp only [h2,AL,AQ] <;> rfl
    have h2:(Cs [9,16] t.k)=false:=h2
    refine Ad ?_
    refine' A1 [1,2,3,9] (fun aa=>?y3) (Al ?n3)
    case y3 =>
     refine Ad ?_
     refine Ci [13,1,2,3,9] ?_
     exact Ai A0
    case n3 =>
     refine Aw (fun h4=>?_) fun h4=>?_
     · have h4:(Cs [13,11] t.k)=true:=h4
       refine Am (Au (Ap J (Fy J J (Ap J (Ay J J J (fun _=>AB AY (Ab J)) (BQ J J J (AZ Bh (Ah J id) (fun _=>E.J.y J)) (Ay J J J (fun _=>CS AC (Ah J id) Bd (fun hc=>by have:=AH hc.2;omega) (fun hc=>(Ba hk (i:=0) (by have:=AH hc.2;omega)).1)) (Ay J J J (fun _=>AB FP (Ah J id)) (BQ J J J (AZ Cb (Ah J id) (fun hc=>by
 obtain ⟨_,p',c',hcell,_⟩:=Ba hk (i:=0) (by have:=AH hc.2;omega)
 exact (hcell.A g) 0 _ rfl)) (Ay rfl rfl rfl (fun _=>Gk (Ah rfl id) Bd) (AR rfl (fun _=>Et (Ab rfl) (Ah rfl id)) (Bj rfl (Ai (Al (Dl (Fp rfl rfl ?_))))))))))))))))
       refine ⟨Ig ?_,g⟩
       unfold My;simp only [h2,h4,AL,AQ] <;> rfl
     have h4:(Cs [13,11] t.k)=false:=h4
     refine Aw (fun h5=>?_) fun h5=>?_
     · (try simp only [BH] at h5)
       refine Am (Au (Ap J (Fy J J (Ap J (Ay J J J (fun _=>AB AY (Ab J)) (BQ J J J (AZ Bh (Ah J id) (fun _=>E.J.y J)) (Ay J J J (fun _=>CS AC (Ah J id) Bd (fun hc=>by have:=AH hc.2;omega) (fun hc=>(Ba hk (i:=1) (by have:=AH hc.2;omega)).1)) (Ay J J J (fun _=>AB FP (Ah J id)) (BQ J J J (AZ Cb (Ah J id) (fun hc=>by
 obtain ⟨_,p',c',hcell,_⟩:=Ba hk (i:=1) (by have:=AH hc.2;omega)
 exact (hcell.A g) 0 _ rfl)) (Ay rfl rfl rfl (fun _=>Gk (Ah rfl id) Bd) (AR rfl (fun _=>Et (Ab rfl) (Ah rfl id)) (Bj rfl (Ai (Al (Dl (Fp rfl rfl ?_))))))))))))))))
       refine ⟨Ig ?_,g⟩
       unfold My;simp only [h2,h4,h5,AL,AQ] <;> rfl
     refine Cy ?_
     unfold My;simp only [h2,h4,h5,AL,AQ] <;> rfl
def HJ(t:Nd):Bool:=bif Cs [2,3,4,6,11,28,27,34,8] t.k then FK t.o
 else bif Ac (t.k=31) then Ac (t.o=[45]) || Ac (t.o=[33])
 else bif Ac (t.k=32) then Ep Ky t.o
 else bif Ac (t.k=7) then ID t.o
 else Ac (t.o=[])
theorem kS(t:Nd)(p:Option Addr)(c:Nat)(w:Ae)(hL:Laid w)(af:10≤w.heap.size):Bz An 83 #[Cd t (.slice p t.j.length c)] w fun v w'=>v = .bool (HJ t)∧G w w':=by
 have g:=G.refl w;refine Cu 64 [0] Tryz.func83 ?_;refine CT fun _ _ _ _ g E=>?_;refine Ad ?_;refine' A1 [1,2,4] (fun a4=>?y1) (Al ?n1)
 case y1 =>
  refine Ad ?_;refine' A1 [1,2,4] (fun Ga=>?y2) A0
  case y2 =>
   refine Ad ?_;refine' A1 [1,2,4] (fun af=>?y3) A0
   case y3 =>
    refine Ad ?_;refine' A1 [1,2,4] (fun bb=>?y4) A0
    case y4 =>
     refine Ad ?_;refine' A1 [1,2,4] (fun a9=>?y5) A0
     case y5 =>
      refine Ad ?_;refine' A1 [1,2,4] (fun ba=>?y6) A0
      case y6 =>
       refine Ad ?_;refine' A1 [1,2,4] (fun a5=>?y7) A0
       case y7 =>
        refine Ad ?_;refine' A1 [1,2,4] (fun a8=>?y8) A0
        case y8 =>
         refine Ad ?_;refine Ci [5,1,2,4] ?_;exact Ai A0
 case n1 =>
  refine Aw (fun h9=>?_) fun h9=>?_;have h9:(Cs [2,3,4,6,11,28,27,34,8] t.k)=true:=h9;refine Ad ?_;refine DI (tJ _ _ (hL.A g) Dn) (DB fun a6 a7 g E=>?_);refine Cy ?_;unfold HJ;simp only [Ky,ID,II,Ep,h9,AL,AQ] <;> rfl
  have h9:(Cs [2,3,4,6,11,28,27,34,8] t.k)=false:=h9;refine Aw (fun aa=>?_) fun aa=>?_;(try simp only [BH] at aa);refine Cy ?_;unfold HJ;simp only [Ky,ID,II,Ep,h9,aa,AL,AQ] <;> rfl
  refine Aw (fun ab=>?_) fun ab=>?_;(try simp only [BH] at ab);refine Ad ?_;refine' A1 [1,2] (fun aw=>?y12) (Al ?n12)
  case y12 =>
   refine Ad ?_;refine' A1 [1,2] (fun a3=>?y13) A0
   case y13 =>
    refine Ad ?_;refine' A1 [1,2] (fun aj=>?y14) A0
    case y14 =>
     refine Ad ?_;refine' A1 [1,2] (fun ak=>?y15) A0
     case y15 =>
      refine Ad ?_;refine' A1 [1,2] (fun ap=>?y16) A0
      case y16 =>
       refine Ad ?_;refine' A1 [1,2] (fun ao=>?y17) A0
       case y17 =>
        refine Ad ?_;refine' A1 [1,2] (fun ag=>?y18) A0
        case y18 =>
         refine Ad ?_;refine' A1 [1,2] (fun ah=>?y19) A0
         case y19 =>
          refine Ad ?_;refine' A1 [1,2] (fun az=>?y20) A0
          case y20 =>
           refine Ad ?_;refine' A1 [1,2] (fun ax=>?y21) A0
           case y21 =>
            refine Ad ?_;refine' A1 [1,2] (fun a2=>?y22) A0
            case y22 =>
             refine Ad ?_;refine' A1 [1,2] (fun am=>?y23) A0
             case y23 =>
              refine Ad ?_;refine Ci [32,1,2] ?_;exact Ai A0
  case n12 =>
   refine Aw (fun ae=>?_) fun ae=>?_;(try simp only [BH] at ae);refine Cy ?_;unfold HJ;simp only [Ky,ID,II,Ep,h9,aa,ab,ae,AL,AQ] <;> rfl
   refine Cy ?_;unfold HJ;simp only [Ky,ID,II,Ep,h9,aa,ab,ae,AL,AQ] <;> rfl
  refine Aw (fun ac=>?_) fun ac=>?_;(try simp only [BH] at ac);refine Ad ?_;refine' A1 [1,2] (fun au=>?y26) (Al ?n26)
  case y26 =>
   refine Ad ?_;refine' A1 [1,2] (fun av=>?y27) A0
   case y27 =>
    refine Ad ?_;refine' A1 [1,2] (fun aq=>?y28) A0
    case y28 =>
     refine Ad ?_;refine' A1 [1,2] (fun ay=>?y29) A0
     case y29 =>
      refine Ad ?_;refine' A1 [1,2] (fun ai=>?y30) A0
      case y30 =>
       refine Ad ?_;refine' A1 [1,2] (fun ar=>?y31) A0
       case y31 =>
        refine Ad ?_;refine' A1 [1,2] (fun al=>?y32) A0
        case y32 =>
         refine Ad ?_;refine' A1 [1,2] (fun an=>?y33) A0
         case y33 =>
          refine Ad ?_;refine' A1 [1,2] (fun a1=>?y34) A0
          case y34 =>
           refine Ad ?_;refine Ci [50,1,2] ?_;exact Ai A0
  case n26 =>
   refine Aw (fun ad=>?_) fun ad=>?_;(try simp only [BH] at ad);refine Cy ?_;unfold HJ;simp only [Ky,ID,II,Ep,h9,aa,ab,ac,ad,AL,AQ] <;> rfl
   refine Cy ?_;unfold HJ;simp only [Ky,ID,II,Ep,h9,aa,ab,ac,ad,AL,AQ] <;> rfl
  refine Cy ?_;unfold HJ;simp only [Ky,ID,II,Ep,h9,aa,ab,ac,AL,AQ] <;> rfl
theorem Un{w:Ae}{D:Nat→Prop}{t:Nd}{p:Option Addr}{c:Nat}(hk:Bv w D t.j (.slice p t.j.length c))(i:Nat):∃ p' c',i<t.j.length→p=some ⟨E5 p,Gu p,none⟩∧CQ w (E5 p) (Gu p+i*9) (De (Aa t i) (.slice p' (Aa t i).j.length c'))∧Bv w D (Aa t i).j (.slice p' (Aa t i).j.length c'):=by
 by_cases h:i<t.j.length;obtain ⟨h1,p',c',h2,h3⟩:=Ba hk h;exact ⟨p',c',fun _=>⟨h1,h2,h3⟩⟩;exact ⟨none,0,fun h'=>absurd h' h⟩
def BV(t:Nd)(n:Int):Bool:=Ac ((t.j.length:Int)=n)
def Lj(k:Nd):Bool:=Ac (k.k=6)&&(!BV k 2 || !Ac ((Aa k 1).k=9))
def Ey(t:Nd):Bool :=
 bif Ac (t.k=1) then !(t.j.any Lj)&&HU t (CV [2,6,4])
 else bif Cs [2,5] t.k then HU t (CV [3])
 else bif Ac (t.k=3) then Fb t [IE]
 else bif Ac (t.k=4) then Fb t [CV [5],fun k=>IE k || CV [9] k,CV [10]]
 else bif Ac (t.k=6) then Fb t [IE,fun k=>E7 k || CV [9] k]
 else bif Ac (t.k=10) then HU t L5
 else bif Cs [11,17,21,28,31,33,35,36,37] t.k then Fb t [E7]
 else bif Cs [12,16,29,32] t.k then Fb t [E7,E7]
 else bif Ac (t.k=13) then Fb t [CV [30,33]]
 else bif Cs [14,15] t.k then Fb t [CV [30]]
 else bif Ac (t.k=18) then Fb t [E7,CV [10],CV [10,18,9]]
 else bif Ac (t.k=19) then Fb t [fun k=>E7 k || CV [9] k,CV [10]]
 else bif Ac (t.k=20) then BV t 0 || Fb t [E7]
 else bif Ac (t.k=22) then HU t (CV [23])
 else bif Ac (t.k=23) then (BV t 2&&My (Aa t 0))&&CV [10] (Aa t 1).k
 else bif Ac (t.k=30) then Ac ((0:Int)<t.j.length)&&HU t E7
 else bif Ac (t.k=24) then BV t 0&&Ac (0≤t.num)
 else bif Ac (t.k=25) then BV t 0&&(Ac (t.num=0) || Ac (t.num=1))
 else bif Cs [27,34,26,9,7,8] t.k then BV t 0
 else bif Ac (t.k=38) then Fb t [CV [10]]
 else false
theorem Afm(t:Nd)(p:Option Addr)(c:Nat)(D:Nat→Prop)(w:Ae)(hk:Bv w D t.j (.slice p t.j.length c))(hc:t.j.length≤1000000)(ec:∀ i,(Aa t i).j.length≤1000000):Bz An 84 #[Cd t (.slice p t.j.length c)] w fun v w'=>v = .bool (Ey t)∧G w w':=by
   have g:=G.refl w
   have el:=hc
   refine Cu 221 [0] Tryz.func84 ?_
   refine CT fun _ _ _ _ g E=>?_
   refine Ck fun _ _ _ _ g E=>?_
   refine AO (Mi [10] _ _ _ _ E.J.row BT) ?_
   rintro v8 w8 ⟨bc,g8⟩
   have fk:=bc
   obtain ⟨f8,i4,je,rfl,ei,fx⟩:=fk
   refine Ev g8 fun g=>?_
   replace E:=E.A g8
   have ab:=G.refl w8
   refine Ck fun _ _ ga _ g E=>?_
   have fb:=ga.ge ab
   have ab:=ab.trans (ga.g)
   refine AO (Mi [3] _ _ _ _ E.J.row BT) ?_
   rintro jd e4 ⟨cq,dg⟩
   have d3:=cq
   obtain ⟨jl,ho,gp,rfl,ft,i0⟩:=d3
   refine Ev dg fun g=>?_
   have ab:=ab.trans (dg)
   replace E:=E.A dg
   have aa:=G.refl e4
   refine Aw (fun h1=>?_) fun h1=>?_
   · (try simp only [BH] at h1)
     refine Ad ?_
     refine Hi (fun (i:Nat) u1=>(i≤t.j.length∧∀ j,(h:j<t.j.length)→j<i→Lj t.j[j]=false)∧G e4 u1) [(1,True,_),(16,True,_),(17,True,_)] (fun (i:Nat)=>[(18,True,.int .i64 i)]) (fun (i:Nat)=>t.j.length-i) (0) ⟨⟨A2 _,fun j _ hj=>absurd hj (CC j)⟩,G.refl _⟩ Bp ?_
     rintro i u1 ⟨d6,al⟩
     have g:=g.trans al
     have ab:=ab.trans al
     have aa:=aa.trans al
     replace E:=E.A al
     refine Aw (fun h2=>?_) fun h2=>?_
     · have h2:i<t.j.length:=by simp only [BM] at h2;omega
       obtain ⟨hpe,p2,c2,hcell,cn⟩:=Ba hk h2
       have hw:=ec i
       refine CJ (Al (Am (DF (Am (Au (Dk AC J J O hpe (Ct A3 J J (hcell.A g) (A5 fun _ _ ga _ g E=>?_))))))))
       have fd:=ga.ge ab
       have e7:=ga.ge aa
       have e9:=ga.ge al
       have ab:=ab.trans (ga.g)
       have aa:=aa.trans (ga.g)
       have al:=al.trans (ga.g)
       refine AS fun _ ga _ g E=>?_
       first|replace ab:=BJ ab ga O|clear ab|skip
       first|replace aa:=BJ aa ga O|clear aa|skip
       first|replace al:=BJ al ga O|clear al|skip
       refine Ai (Al (Am (Au (AE FP J (AM Cb J (E.J.y J) (Fy J J (Ap J (Ay J J J (fun _=>AB AY (Ab J)) (BQ J J J (AZ Bh (Ah J id) (fun _=>E.J.y J)) (Ay J J J (fun _=>Lp AC (Ah J id)) (Ay J J J (fun _=>IA (Ah J id) Bd) (Ay J J J (fun _=>J1 (Ah J id)) (Ay J J J (fun _=>AB AY (Ab J)) (BQ J J J (AZ Bh (Ah J id) (fun _=>E.J.y J)) (Ay J J J (fun _=>CS AC (Ah J id) Bd (fun hc=>by have:=hc.2;simp only [Bool.not_eq_false',BM] at this;omega) (fun hc=>(Ba cn (i:=1) (by have:=hc.2;simp only [Bool.not_eq_false',BM] at this;omega)).1)) (Ay J J J (fun _=>AB FP (Ah J id)) (?_)))))))))))))))))
       refine BQ J J J (AZ Cb (Ah J id) (fun hc=>by
 obtain ⟨_,p',c',b2,_⟩:=Ba cn (i:=1) (by have:=hc.2;simp only [Bool.not_eq_false',BM] at this;omega)
 exact (b2.A g) 0 _ rfl)) (Ay rfl rfl rfl (fun _=>IA (Ah rfl id) Bd) (Ay rfl rfl rfl (fun _=>FR (Ah rfl id) (Ah rfl id)) (AR rfl (fun _=>Et (Ab rfl) (Ah rfl id)) (Ai (Al (Cv rfl (fun h3=>?_) (fun h3=>?_)))))))
       · have h3:(Lj (Aa t i))=true:=h3
         have d9:t.j.any Lj=true:=List.any_eq_true.2 ⟨_,AA h2,by rw [← Em h2];exact h3⟩
         refine Cy ?_
         unfold Ey;rw [h1,d9];rfl
       have h3:(Lj (Aa t i))=false:=h3
       refine Ad ?_
       refine Ci [18,1,16,17] ?_
       refine Ai (fun a ha=>?_)
       refine ⟨i+1,ha,⟨⟨h2,fun j h hj=>?_⟩,al⟩,O⟩
       by_cases e:j=i
       · subst e;rw [← Em h2];exact h3
       · exact d6.2 j h O
     have h2:i=t.j.length:=by simp only [CB] at h2;omega
     have ct:t.j.any Lj=false:=by
       rw [List.any_eq_false];intro x hx
       obtain ⟨j,hj,rfl⟩:=CW hx
       rw [d6.2 j hj O];simp
     refine Ad ?_
     refine Dj [0,1,1,1,3] ?_
     have g:=HG g
     have ab:=ab.trans (G.drew _)
     have aa:=aa.trans (G.drew _)
     have al:=al.trans (G.drew _)
     replace E:=E.dr
     refine Ck fun _ _ ga _ g E=>?_
     have ed:=ga.ge ab
     have di:=ga.ge aa
     have ez:=ga.ge al
     refine AO (Mi [2,6,4] _ _ _ _ E.J.row BT) ?_
     rintro ji f0 ⟨ci,d4⟩
     have eu:=ci
     obtain ⟨jq,hu,ik,rfl,fj,hy⟩:=eu
     refine Ev d4 fun g=>?_
     replace E:=E.A d4
     have d2:=G.refl f0
     refine DI (So t _ _ D (CV [2,6,4]) _ _ (hk.A g) (ci.A d2) hc) (DB fun jc jb g E=>?_)
     refine Cy ?_
     unfold Ey;rw [h1,ct];rfl
   refine Ad ?_
   refine' A1 [1,2,3,4,12] (fun jg=>?y4) (Al ?n4)
   case y4 =>
    refine Ad ?_
    refine Ci [44,1,2,3,4,12] ?_
    exact Ai A0
   case n4 =>
    refine Aw (fun h5=>?_) fun h5=>?_
    · (try simp only [BH] at h5)
      refine Ad ?_
      refine DI (So t _ _ D (CV [3]) _ _ (hk.A g) (cq.A aa) hc) (DB fun i9 ja g E=>?_)
      refine Cy ?_
      unfold Ey;simp only [Cs,h1,h5,AL,AQ] <;> rfl
    refine Aw (fun h6=>?_) fun h6=>?_
    · (try simp only [BH] at h6)
      refine Ck fun _ _ ga _ g E=>?_
      have e5:=ga.ge ab
      have dv:=ga.ge aa
      refine DI (Lu t _ _ D [IE] _ _ _ _ _ (hk.A g) J E.J.row (fun i h=>by match i,h with|0,_=>exact Lg Rz RB _) hc) (DB fun jm jk g E=>?_)
      refine Cy ?_
      unfold Ey;simp only [Cs,h1,h5,h6,AL,AQ] <;> rfl
    refine Aw (fun h7=>?_) fun h7=>?_
    · (try simp only [BH] at h7)
      refine Ad ?_
      refine Dx (Ej none) [0,1,1,1,1,3,1,1,3] [0,0,2,0,14,0,62,127,255] CG Ag [0,1,2,3,4,5,6,7,8] J ?_
      have g:=HG g
      have ab:=ab.trans (G.drew _)
      have aa:=aa.trans (G.drew _)
      replace E:=E.dr
      refine Bb 0 J J (fun w1 hx=>A8 A3 (Ab J) J (fun _=>(E.g2.C hx DD).row)) (As 5 J J (Bm J) (Lx 1 3 J J ?_ ?_))
      · refine Bt (L':=[2,3,4,6,7,8]) [0,1,1,1,1,3,1,1,3] rfl rfl rfl ?_
        refine Ck fun _ _ ar jn g E=>?_
        have bv:=ar.ge ab
        have bj:=ar.ge aa
        have ab:=ab.trans (ar.g)
        have aa:=aa.trans (ar.g)
        refine Bs ((ar.g).O _) ?_
        refine Lx 2 3 J J ?_ ?_
        · refine Bt (L':=[3,4,6,7,8]) [0,1,1,1,1,3,1,1,3] rfl rfl rfl ?_
          refine AO (Mi [5] _ _ _ _ E.J.row BT) ?_
          rintro d5 bp ⟨ap,ai⟩
          have a7:=ap
          obtain ⟨er,b7,b4,rfl,bz,b8⟩:=a7
          refine Ev ai fun g=>?_
          have ab:=ab.trans (ai)
          have aa:=aa.trans (ai)
          replace E:=E.A ai
          have ac:=G.refl bp
          refine Bs ((ai).O _) ?_
          refine AW 3 J J ?_
          refine Bt (L':=[4,6,7,8]) [0,1,1,1,1,3,1,1,3] J J J ?_
          refine Ck fun _ _ ag fo g E=>?_
          have a9:=ag.ge ab
          have ax:=ag.ge aa
          have dk:=ag.ge ac
          have ab:=ab.trans (ag.g)
          have aa:=aa.trans (ag.g)
          have ac:=ac.trans (ag.g)
          refine Bs ((ag.g).O _) ?_
          refine AW 4 J J ?_
          refine Bt (L':=[6,7,8]) [0,1,1,1,1,3,1,1,3] J J J ?_
          refine AO (SG IE [9] _ _ _ _ _ (Lg Rz RB _) E.J.row BT) ?_
          rintro eh bn ⟨ao,af⟩
          have a6:=ao
          obtain ⟨e3,b9,cp,rfl,bq,cg⟩:=a6
          refine Ev af fun g=>?_
          have ab:=ab.trans (af)
          have aa:=aa.trans (af)
          have ac:=ac.trans (af)
          replace E:=E.A af
          have ae:=G.refl bn
          refine Bs ((af).O _) ?_
          refine AW 6 J J ?_
          refine Bt (L':=[7,8]) [0,1,1,1,1,3,1,1,3] J J J ?_
          refine Ck fun _ _ ad fz g E=>?_
          have a8:=ad.ge ab
          have aw:=ad.ge aa
          have ay:=ad.ge ac
          have az:=ad.ge ae
          have ab:=ab.trans (ad.g)
          have ac:=ac.trans (ad.g)
          have ae:=ae.trans (ad.g)
          refine Bs ((ad.g).O _) ?_
          refine AW 7 J J ?_
          refine Bt (L':=[8]) [0,1,1,1,1,3,1,1,3] J J J ?_
          refine DI (Lu t _ _ D [CV [5],fun k=>IE k || CV [9] k,CV [10]] _ _ _ _ _ (hk.A g) J E.J.row (fun i h=>by match i,h with|0,_=>exact ap.A ac|1,_=>exact ao.A ae|2,_=>exact bc.A ab) hc) (DB fun eo bm g E=>?_)
          refine Bs ((bm).O _) ?_
          refine As 8 J J (fun _=>Fj (Ab J)) (Dt [2] (FW (Al (Dl (Fp J J ?_)))))
          refine ⟨Ig ?_,g⟩
          unfold Ey;simp only [Cs,h1,h5,h6,h7,AL,AQ] <;> rfl
        · refine Bt (L':=[2,4,6,7,8]) [0,1,1,1,1,3,1,1,3] rfl rfl rfl ?_
          refine Ck fun _ _ ag fo g E=>?_
          have a9:=ag.ge ab
          have ax:=ag.ge aa
          have ab:=ab.trans (ag.g)
          have aa:=aa.trans (ag.g)
          refine Bs ((ag.g).O _) ?_
          refine AW 2 J J ?_
          refine Bt (L':=[4,6,7,8]) [0,1,1,1,1,3,1,1,3] J J J ?_
          refine AO (Mi [5] _ _ _ _ E.U.row BT) ?_
          rintro d5 bp ⟨ap,ai⟩
          have a7:=ap
          obtain ⟨er,b7,b4,rfl,bz,b8⟩:=a7
          refine Ev ai fun g=>?_
          have ab:=ab.trans (ai)
          have aa:=aa.trans (ai)
          replace E:=E.A ai
          have ac:=G.refl bp
          refine Bs ((ai).O _) ?_
          refine AW 4 J J ?_
          refine Bt (L':=[6,7,8]) [0,1,1,1,1,3,1,1,3] J J J ?_
          refine AO (SG IE [9] _ _ _ _ _ (Lg Rz RB _) E.J.row BT) ?_
          rintro eh bn ⟨ao,af⟩
          have a6:=ao
          obtain ⟨e3,b9,cp,rfl,bq,cg⟩:=a6
          refine Ev af fun g=>?_
          have ab:=ab.trans (af)
          have aa:=aa.trans (af)
          have ac:=ac.trans (af)
          replace E:=E.A af
          have ae:=G.refl bn
          refine Bs ((af).O _) ?_
          refine AW 6 J J ?_
          refine Bt (L':=[7,8]) [0,1,1,1,1,3,1,1,3] J J J ?_
          refine Ck fun _ _ ad fz g E=>?_
          have a8:=ad.ge ab
          have aw:=ad.ge aa
          have ay:=ad.ge ac
          have az:=ad.ge ae
          have ab:=ab.trans (ad.g)
          have ac:=ac.trans (ad.g)
          have ae:=ae.trans (ad.g)
          refine Bs ((ad.g).O _) ?_
          refine AW 7 J J ?_
          refine Bt (L':=[8]) [0,1,1,1,1,3,1,1,3] J J J ?_
          refine DI (Lu t _ _ D [CV [5],fun k=>IE k || CV [9] k,CV [10]] _ _ _ _ _ (hk.A g) J E.J.row (fun i h=>by match i,h with|0,_=>exact ap.A ac|1,_=>exact ao.A ae|2,_=>exact bc.A ab) hc) (DB fun eo bm g E=>?_)
          refine Bs ((bm).O _) ?_
          refine As 8 J J (fun _=>Fj (Ab J)) (Dt [2] (FW (Al (Dl (Fp J J ?_)))))
          refine ⟨Ig ?_,g⟩
          unfold Ey;simp only [Cs,h1,h5,h6,h7,AL,AQ] <;> rfl
      · refine Bt (L':=[1,2,4,6,7,8]) [0,1,1,1,1,3,1,1,3] rfl rfl rfl ?_
        refine Ck fun _ _ ag _ g E=>?_
        have a9:=ag.ge ab
        have ax:=ag.ge aa
        have ab:=ab.trans (ag.g)
        have aa:=aa.trans (ag.g)
        refine Bs ((ag.g).O _) ?_
        refine AW 1 J J ?_
        refine Bt (L':=[2,4,6,7,8]) [0,1,1,1,1,3,1,1,3] J J J ?_
        refine Ck fun _ _ ar _ g E=>?_
        have bv:=ar.ge ab
        have bj:=ar.ge aa
        have ab:=ab.trans (ar.g)
        have aa:=aa.trans (ar.g)
        refine Bs ((ar.g).O _) ?_
        refine AW 2 J J ?_
        refine Bt (L':=[4,6,7,8]) [0,1,1,1,1,3,1,1,3] J J J ?_
        refine AO (Mi [5] _ _ _ _ E.J.row BT) ?_
        rintro d5 bp ⟨ap,ai⟩
        have a7:=ap
        obtain ⟨er,b7,b4,rfl,bz,b8⟩:=a7
        refine Ev ai fun g=>?_
        have ab:=ab.trans (ai)
        have aa:=aa.trans (ai)
        replace E:=E.A ai
        have ac:=G.refl bp
        refine Bs ((ai).O _) ?_
        refine AW 4 J J ?_
        refine Bt (L':=[6,7,8]) [0,1,1,1,1,3,1,1,3] J J J ?_
        refine AO (SG IE [9] _ _ _ _ _ (Lg Rz RB _) E.U.row BT) ?_
        rintro eh bn ⟨ao,af⟩
        have a6:=ao
        obtain ⟨e3,b9,cp,rfl,bq,cg⟩:=a6
        refine Ev af fun g=>?_
        have ab:=ab.trans (af)
        have aa:=aa.trans (af)
        have ac:=ac.trans (af)
        replace E:=E.A af
        have ae:=G.refl bn
        refine Bs ((af).O _) ?_
        refine AW 6 J J ?_
        refine Bt (L':=[7,8]) [0,1,1,1,1,3,1,1,3] J J J ?_
        refine Ck fun _ _ ad _ g E=>?_
        have a8:=ad.ge ab
        have aw:=ad.ge aa
        have ay:=ad.ge ac
        have az:=ad.ge ae
        have ab:=ab.trans (ad.g)
        have ac:=ac.trans (ad.g)
        have ae:=ae.trans (ad.g)
        refine Bs ((ad.g).O _) ?_
        refine AW 7 J J ?_
        refine Bt (L':=[8]) [0,1,1,1,1,3,1,1,3] J J J ?_
        refine DI (Lu t _ _ D [CV [5],fun k=>IE k || CV [9] k,CV [10]] _ _ _ _ _ (hk.A g) J E.J.row (fun i h=>by match i,h with|0,_=>exact ap.A ac|1,_=>exact ao.A ae|2,_=>exact bc.A ab) hc) (DB fun eo bm g E=>?_)
        refine Bs ((bm).O _) ?_
        refine As 8 J J (fun _=>Fj (Ab J)) (Dt [2] (FW (Al (Dl (Fp J J ?_)))))
        refine ⟨Ig ?_,g⟩
        unfold Ey;simp only [Cs,h1,h5,h6,h7,AL,AQ] <;> rfl
    refine Aw (fun h8=>?_) fun h8=>?_
    · (try simp only [BH] at h8)
      refine Ad ?_
      refine Dj [0,1,1,1,1,3] ?_
      have g:=HG g
      have ab:=ab.trans (G.drew _)
      have aa:=aa.trans (G.drew _)
      replace E:=E.dr
      refine Ck fun _ _ ga _ g E=>?_
      have e0:=ga.ge ab
      have dq:=ga.ge aa
      have ab:=ab.trans (ga.g)
      have aa:=aa.trans (ga.g)
      refine AO (SG E7 [9] _ _ _ _ _ (Lg Ot NZ _) E.J.row BT) ?_
      rintro jo fg ⟨cb,b1⟩
      have ew:=cb
      obtain ⟨i8,i2,gy,rfl,f4,ih⟩:=ew
      refine Ev b1 fun g=>?_
      have ab:=ab.trans (b1)
      have aa:=aa.trans (b1)
      replace E:=E.A b1
      have bf:=G.refl fg
      refine Ck fun _ _ ga _ g E=>?_
      have eb:=ga.ge ab
      have du:=ga.ge aa
      have dl:=ga.ge bf
      have bf:=bf.trans (ga.g)
      refine DI (Lu t _ _ D [IE,fun k=>E7 k || CV [9] k] _ _ _ _ _ (hk.A g) J E.J.row (fun i h=>by match i,h with|0,_=>exact Lg Rz RB _|1,_=>exact cb.A bf) hc) (DB fun i6 jj g E=>?_)
      refine Cy ?_
      unfold Ey;simp only [Cs,h1,h5,h6,h7,h8,AL,AQ] <;> rfl
    refine Aw (fun h9=>?_) fun h9=>?_
    · (try simp only [BH] at h9)
      refine Ad ?_
      refine DI (So t _ _ D L5 _ _ (hk.A g) (Lg kV Abc _) hc) (DB fun jp i7 g E=>?_)
      refine Cy ?_
      unfold Ey;simp only [Cs,h1,h5,h6,h7,h8,h9,AL,AQ] <;> rfl
    refine Ad ?_
    refine' A1 [1,2,3,12] (fun it=>?y10) (Al ?n10)
    case y10 =>
     refine Ad ?_
     refine' A1 [1,2,3,12] (fun im=>?y11) A0
     case y11 =>
      refine Ad ?_
      refine' A1 [1,2,3,12] (fun gz=>?y12) A0
      case y12 =>
       refine Ad ?_
       refine' A1 [1,2,3,12] (fun hh=>?y13) A0
       case y13 =>
        refine Ad ?_
        refine' A1 [1,2,3,12] (fun ig=>?y14) A0
        case y14 =>
         refine Ad ?_
         refine' A1 [1,2,3,12] (fun gf=>?y15) A0
         case y15 =>
          refine Ad ?_
          refine' A1 [1,2,3,12] (fun ii=>?y16) A0
          case y16 =>
           refine Ad ?_
           refine' A1 [1,2,3,12] (fun gg=>?y17) A0
           case y17 =>
            refine Ad ?_
            refine Ci [76,1,2,3,12] ?_
            exact Ai A0
    case n10 =>
     refine Aw (fun ah=>?_) fun ah=>?_
     · (try simp only [BH] at ah)
       refine Ck fun _ _ ga _ g E=>?_
       have d8:=ga.ge ab
       have dy:=ga.ge aa
       refine DI (Lu t _ _ D [E7] _ _ _ _ _ (hk.A g) J E.J.row (fun i h=>by match i,h with|0,_=>exact Lg Ot NZ _) hc) (DB fun i5 jh g E=>?_)
       refine Cy ?_
       unfold Ey;simp only [Cs,h1,h5,h6,h7,h8,h9,ah,AL,AQ] <;> rfl
     refine Ad ?_
     refine' A1 [1,2,3,12] (fun hl=>?y19) (Al ?n19)
     case y19 =>
      refine Ad ?_
      refine' A1 [1,2,3,12] (fun h4=>?y20) A0
      case y20 =>
       refine Ad ?_
       refine' A1 [1,2,3,12] (fun i1=>?y21) A0
       case y21 =>
        refine Ad ?_
        refine Ci [89,1,2,3,12] ?_
        exact Ai A0
     case n19 =>
      refine Aw (fun aj=>?_) fun aj=>?_
      · (try simp only [BH] at aj)
        refine Ck fun _ _ ga _ g E=>?_
        have ey:=ga.ge ab
        have d1:=ga.ge aa
        refine DI (Lu t _ _ D [E7,E7] _ _ _ _ _ (hk.A g) J E.J.row (fun i h=>by match i,h with|0,_=>exact Lg Ot NZ _|1,_=>exact Lg Ot NZ _) hc) (DB fun jf jr g E=>?_)
        refine Cy ?_
        unfold Ey;simp only [Cs,h1,h5,h6,h7,h8,h9,ah,aj,AL,AQ] <;> rfl
      refine Aw (fun ak=>?_) fun ak=>?_
      · (try simp only [BH] at ak)
        refine Ad ?_
        refine Dj [0,1,1,1,1,3] ?_
        have g:=HG g
        have ab:=ab.trans (G.drew _)
        have aa:=aa.trans (G.drew _)
        replace E:=E.dr
        refine Ck fun _ _ ga _ g E=>?_
        have dj:=ga.ge ab
        have c8:=ga.ge aa
        have ab:=ab.trans (ga.g)
        have aa:=aa.trans (ga.g)
        refine AO (Mi [30,33] _ _ _ _ E.J.row BT) ?_
        rintro iw ep ⟨bs,bi⟩
        have c4:=bs
        obtain ⟨hi,f6,f1,rfl,fc,fs⟩:=c4
        refine Ev bi fun g=>?_
        have ab:=ab.trans (bi)
        have aa:=aa.trans (bi)
        replace E:=E.A bi
        have a3:=G.refl ep
        refine Ck fun _ _ ga _ g E=>?_
        have dx:=ga.ge ab
        have cw:=ga.ge aa
        have ck:=ga.ge a3
        have a3:=a3.trans (ga.g)
        refine DI (Lu t _ _ D [CV [30,33]] _ _ _ _ _ (hk.A g) J E.J.row (fun i h=>by match i,h with|0,_=>exact bs.A a3) hc) (DB fun gs ip g E=>?_)
        refine Cy ?_
        unfold Ey;simp only [Cs,h1,h5,h6,h7,h8,h9,ah,aj,ak,AL,AQ] <;> rfl
      refine Ad ?_
      refine' A1 [1,2,3,12] (fun gi=>?y24) (Al ?n24)
      case y24 =>
       refine Ad ?_
       refine Ci [104,1,2,3,12] ?_
       exact Ai A0
      case n24 =>
       refine Aw (fun am=>?_) fun am=>?_
       · (try simp only [BH] at am)
         refine Ad ?_
         refine Dj [0,1,1,1,1,3] ?_
         have g:=HG g
         have ab:=ab.trans (G.drew _)
         have aa:=aa.trans (G.drew _)
         replace E:=E.dr
         refine Ck fun _ _ ga _ g E=>?_
         have dm:=ga.ge ab
         have c5:=ga.ge aa
         have ab:=ab.trans (ga.g)
         have aa:=aa.trans (ga.g)
         refine AO (Mi [30] _ _ _ _ E.J.row BT) ?_
         rintro gn ek ⟨b0,be⟩
         have cy:=b0
         obtain ⟨gk,fu,f9,rfl,fe,f2⟩:=cy
         refine Ev be fun g=>?_
         have ab:=ab.trans (be)
         have aa:=aa.trans (be)
         replace E:=E.A be
         have a2:=G.refl ek
         refine Ck fun _ _ ga _ g E=>?_
         have d0:=ga.ge ab
         have de:=ga.ge aa
         have b5:=ga.ge a2
         have a2:=a2.trans (ga.g)
         refine DI (Lu t _ _ D [CV [30]] _ _ _ _ _ (hk.A g) J E.J.row (fun i h=>by match i,h with|0,_=>exact b0.A a2) hc) (DB fun go gw g E=>?_)
         refine Cy ?_
         unfold Ey;simp only [Cs,h1,h5,h6,h7,h8,h9,ah,aj,ak,am,AL,AQ] <;> rfl
       refine Aw (fun an=>?_) fun an=>?_
       · (try simp only [BH] at an)
         refine Ad ?_
         refine Dj [0,3,1,1,1,1,3] ?_
         have g:=HG g
         have ab:=ab.trans (G.drew _)
         have aa:=aa.trans (G.drew _)
         replace E:=E.dr
         refine Ck fun _ _ ga _ g E=>?_
         have dp:=ga.ge ab
         have c6:=ga.ge aa
         have ab:=ab.trans (ga.g)
         have aa:=aa.trans (ga.g)
         refine AO (Mi [10,18,9] _ _ _ _ E.J.row BT) ?_
         rintro iu e2 ⟨br,bg⟩
         have c3:=br
         obtain ⟨il,fw,fm,rfl,fa,f5⟩:=c3
         refine Ev bg fun g=>?_
         have ab:=ab.trans (bg)
         have aa:=aa.trans (bg)
         replace E:=E.A bg
         have a5:=G.refl e2
         refine Ck fun _ _ ga _ g E=>?_
         have dn:=ga.ge ab
         have cu:=ga.ge aa
         have ch:=ga.ge a5
         have ab:=ab.trans (ga.g)
         have a5:=a5.trans (ga.g)
         refine DI (Lu t _ _ D [E7,CV [10],CV [10,18,9]] _ _ _ _ _ (hk.A g) J E.J.row (fun i h=>by match i,h with|0,_=>exact Lg Ot NZ _|1,_=>exact bc.A ab|2,_=>exact br.A a5) hc) (DB fun hv iq g E=>?_)
         refine Cy ?_
         unfold Ey;simp only [Cs,h1,h5,h6,h7,h8,h9,ah,aj,ak,am,an,AL,AQ] <;> rfl
       refine Aw (fun aq=>?_) fun aq=>?_
       · (try simp only [BH] at aq)
         refine Ad ?_
         refine Jg [0,1,1,3,1,1,3] [true,true,true,false,true,true,true] [0,0,2,0,14,31,63] CG Ag ?_
         have g:=HG g
         have ab:=ab.trans (G.drew _)
         have aa:=aa.trans (G.drew _)
         replace E:=E.dr
         refine Ck fun _ _ ga _ g E=>?_
         have dz:=ga.ge ab
         have df:=ga.ge aa
         have ab:=ab.trans (ga.g)
         have aa:=aa.trans (ga.g)
         refine AO (SG E7 [9] _ _ _ _ _ (Lg Ot NZ _) E.J.row BT) ?_
         rintro i3 e6 ⟨bo,bh⟩
         have dc:=bo
         obtain ⟨gu,f3,fy,rfl,e8,fp⟩:=dc
         refine Ev bh fun g=>?_
         have ab:=ab.trans (bh)
         have aa:=aa.trans (bh)
         replace E:=E.A bh
         have a1:=G.refl e6
         refine Ck fun _ _ ga _ g E=>?_
         have dh:=ga.ge ab
         have da:=ga.ge aa
         have cj:=ga.ge a1
         have ab:=ab.trans (ga.g)
         have a1:=a1.trans (ga.g)
         refine DI (Lu t _ _ D [fun k=>E7 k || CV [9] k,CV [10]] _ _ _ _ _ (hk.A g) J E.J.row (fun i h=>by match i,h with|0,_=>exact bo.A a1|1,_=>exact bc.A ab) hc) (DB fun gh iy g E=>?_)
         refine Cy ?_
         unfold Ey;simp only [Cs,h1,h5,h6,h7,h8,h9,ah,aj,ak,am,an,aq,AL,AQ] <;> rfl
       refine Aw (fun au=>?_) fun au=>?_
       · (try simp only [BH] at au)
         refine Ad ?_
         refine cX [_] J J J Ub eQ (J6 BX (IR)) J J ?_
         intro ia gc ce cr
         have g:=g.trans ce
         replace E:=E.A ce
         refine GA (fun hc=>Lu t _ _ D [E7] _ _ _ _ _ (hk.A g) J (cr hc).row (fun i h=>by match i,h with|0,_=>exact Lg Ot NZ _) el) (DB fun ib ij g E=>?_)
         refine Cy ?_
         unfold Ey;simp only [Cs,h1,h5,h6,h7,h8,h9,ah,aj,ak,am,an,aq,au,AL,AQ] <;> rfl
       refine Aw (fun av=>?_) fun av=>?_
       · (try simp only [BH] at av)
         refine Ad ?_
         refine Dj [0,1,1,1,3] ?_
         have g:=HG g
         have ab:=ab.trans (G.drew _)
         have aa:=aa.trans (G.drew _)
         replace E:=E.dr
         refine Ck fun _ _ ga _ g E=>?_
         have dt:=ga.ge ab
         have dd:=ga.ge aa
         refine AO (Mi [23] _ _ _ _ E.J.row BT) ?_
         rintro gv ej ⟨bt,b6⟩
         have db:=bt
         obtain ⟨hr,f7,fq,rfl,ff,fh⟩:=db
         refine Ev b6 fun g=>?_
         replace E:=E.A b6
         have cz:=G.refl ej
         refine DI (So t _ _ D (CV [23]) _ _ (hk.A g) (bt.A cz) hc) (DB fun gl ix g E=>?_)
         refine Cy ?_
         unfold Ey;simp only [Cs,h1,h5,h6,h7,h8,h9,ah,aj,ak,am,an,aq,au,av,AL,AQ] <;> rfl
       refine Am (Au (Fy J J (Bj J (Ai (Al (Cv J (fun a4=>?_) (fun a4=>?_)))))))
       · (try simp only [BH] at a4)
         refine Am (Au (?_))
         obtain ⟨p0,c0,c9⟩:=Un hk 0
         obtain ⟨p1,c1,d7⟩:=Un hk 1
         refine AE AY J (AM Bh J (E.g2.y J) (EI AC J (Fy J J (Ap J (Ay J J J (fun _=>AB AY (Ab J)) (BQ J J J (AZ Bh (Ah J id) (fun _=>E.g2.y J)) (Ay J J J (fun _=>CS AC (Ah J id) Bd (fun hc=>by have:=AH hc.2;omega) (fun hc=>(c9 (by have:=AH hc.2;omega)).1)) (BQ J J J (A8 A3 (Ah J id) J (fun hc=>(c9 (by have:=AH hc.2;omega)).2.1.A g)) (Ff J J J (fun _=>(BF yY BX (CM (Ah J id) (DC)) J)) (fun hc=>Afs (Aa t 0) _ _ D _ ((c9 (by have:=AH hc.2;omega)).2.2.A g) (ec 0)) (fun iz bw=>?_))))))))))
         have g:=g.trans bw
         have ab:=ab.trans (bw)
         replace E:=E.A bw
         refine AR J (fun _=>Et (Ab J) (Ah J id)) (Ap J (Ay J J J (Bm J) (Ay J J J (fun _=>AB AY (Ab J)) (BQ J J J (AZ Bh (Ah J id) (fun _=>E.g2.y J)) (Ay J J J (fun _=>CS AC (Ah J id) Bd (fun hc=>by have:=AH (Dr.1 hc.2).1;omega) (fun hc=>(d7 (by have:=AH (Dr.1 hc.2).1;omega)).1)) (Ay J J J (fun _=>AB FP (Ah J id)) (BQ J J J (AZ Cb (Ah J id) (fun hc=>((d7 (by have:=AH (Dr.1 hc.2).1;omega)).2.1.A g) 0 _ J)) (Ff J J J (fun _=>(BF ei (Ah J id) (CM (Ah J id) (DC)) J)) (fun hc=>fx _ _ ab) (fun iv cd=>?_)))))))))
         have g:=g.trans cd
         replace E:=E.A cd
         refine Cy ?_
         unfold Ey;simp only [Cs,h1,h5,h6,h7,h8,h9,ah,aj,ak,am,an,aq,au,av,a4,AL,AQ] <;> rfl
       refine Aw (fun ba=>?_) fun ba=>?_
       · (try simp only [BH] at ba)
         refine Ad ?_
         refine Ff J J J (fun _=>(BF oV BX (CM (Ah J id) (CM Bd (CM BX (DC)))) J)) (fun hc=>So t _ _ D E7 _ _ (hk.A g) (Lg Ot NZ _) el) (DB fun gj gd g E=>?_)
         refine Cy ?_
         unfold Ey;simp only [Cs,h1,h5,h6,h7,h8,h9,ah,aj,ak,am,an,aq,au,av,a4,ba,AL,AQ] <;> rfl
       refine Aw (fun bb=>?_) fun bb=>?_
       · (try simp only [BH] at bb)
         refine Cy ?_
         unfold Ey;simp only [Cs,h1,h5,h6,h7,h8,h9,ah,aj,ak,am,an,aq,au,av,a4,ba,bb,AL,AQ] <;> rfl
       refine Aw (fun bk=>?_) fun bk=>?_
       · (try simp only [BH] at bk)
         refine Cy ?_
         unfold Ey;simp only [Cs,h1,h5,h6,h7,h8,h9,ah,aj,ak,am,an,aq,au,av,a4,ba,bb,bk,AL,AQ] <;> rfl
       refine Ad ?_
       refine' A1 [1,2,3,12] (fun g9=>?y34) (Al ?n34)
       case y34 =>
        refine Ad ?_
        refine' A1 [1,2,3,12] (fun ic=>?y35) A0
        case y35 =>
         refine Ad ?_
         refine' A1 [1,2,3,12] (fun gq=>?y36) A0
         case y36 =>
          refine Ad ?_
          refine' A1 [1,2,3,12] (fun gr=>?y37) A0
          case y37 =>
           refine Ad ?_
           refine' A1 [1,2,3,12] (fun io=>?y38) A0
           case y38 =>
            refine Ad ?_
            refine Ci [204,1,2,3,12] ?_
            exact Ai A0
       case n34 =>
        refine Aw (fun bu=>?_) fun bu=>?_
        · (try simp only [BH] at bu)
          refine Cy ?_
          unfold Ey;simp only [Cs,h1,h5,h6,h7,h8,h9,ah,aj,ak,am,an,aq,au,av,a4,ba,bb,bk,bu,AL,AQ] <;> rfl
        refine Aw (fun b3=>?_) fun b3=>?_
        · (try simp only [BH] at b3)
          refine Ck fun _ _ ga _ g E=>?_
          have dw:=ga.ge ab
          have c7:=ga.ge aa
          have ab:=ab.trans (ga.g)
          refine DI (Lu t _ _ D [CV [10]] _ _ _ _ _ (hk.A g) J E.J.row (fun i h=>by match i,h with|0,_=>exact bc.A ab) hc) (DB fun ir ie g E=>?_)
          refine Cy ?_
          unfold Ey;simp only [Cs,h1,h5,h6,h7,h8,h9,ah,aj,ak,am,an,aq,au,av,a4,ba,bb,bk,bu,b3,AL,AQ] <;> rfl
        refine Cy ?_
        unfold Ey;simp only [Cs,h1,h5,h6,h7,h8,h9,ah,aj,ak,am,an,aq,au,av,a4,ba,bb,bk,bu,b3,AL,AQ] <;> rfl
def I6(t:Nd):Bool:=HJ t&&Ey t
def Cr(t:Nd):Bool:=Jx (fun t l=>I6 t&&l.all id) t
theorem Je(t:Nd):Cr t=(I6 t&&t.j.all Cr):=by
 rw [Cr,Lw,List.all_map];rfl
def Mn(l:List Nat):Nat:=l.foldl max 0
def H6(t:Nd):Nat:=Jx (fun _ l=>Mn l+1) t
theorem Vt(t:Nd):H6 t=Mn (t.j.map H6)+1:=Lw _ t
theorem tY(l:List Nat)(a d:Nat):l.foldl max a≤d↔a≤d∧∀ x∈l,x≤d:=by
 induction l generalizing a with
 | nil=>simp
 | cons x xs ih=>simp only [List.foldl_cons,ih,List.forall_mem_cons,Nat.max_le,and_assoc]
theorem S9(l:List Nat)(d:Nat):Mn l≤d↔∀ x∈l,x≤d:=by
 rw [Mn,tY];exact ⟨fun h=>h.2,fun h=>⟨A2 _,h⟩⟩
theorem ZM(t:Nd)(d:Nat):H6 t≤d↔0<d∧∀ k∈t.j,H6 k≤d-1:=by
 rw [Vt];constructor;intro h;refine ⟨O,fun k hk=>?_⟩;have:=(S9 (t.j.map H6) (d-1)).1 O;exact this _ (List.mem_map_of_mem hk);rintro ⟨h0,h⟩;have:=(S9 (t.j.map H6) (d-1)).2 (fun x hx=>by obtain ⟨k,hk,rfl⟩:=List.mem_map.1 hx;exact h k hk);omega
theorem Acd(t:Nd):1≤H6 t:=by rw [Vt];omega
theorem zP:∀ t,H6 t≤count t:=by
 refine Nd.ap fun t ih=>?_;rw [ZM];exact ⟨JY t,fun k hk=>by have:=ih k hk;have:=MW hk;omega⟩
def Lb(d:Nat)(t:Nd):Bool:=Cr t&&Ac (H6 t≤d)
theorem Aaz(t:Nd):Lb 0 t=false:=by
 have:=Acd t;rw [Lb,Aq O,Bool.and_false]
theorem Y9{d:Nat}(h:0<d)(t:Nd):Lb d t=((HJ t&&Ey t)&&t.j.all (Lb (d-1))):=by
 rw [FI,Lb,Je,I6];simp only [Cj,BM,ZM t d,Bu,Lb];constructor;rintro ⟨⟨h1,h2⟩,_,h3⟩;exact ⟨h1,fun k hk=>⟨h2 k hk,h3 k hk⟩⟩;rintro ⟨h1,h2⟩;exact ⟨⟨h1,fun k hk=>(h2 k hk).1⟩,h,fun k hk=>(h2 k hk).2⟩
theorem gO{t:Nd}{n:Nat}(h:count t≤n)(i:Nat):(Aa t i).j.length≤n:=by
 by_cases hi:i<t.j.length;rw [Em hi];have:=MW (AA hi);have:=ED t.j[i];omega;have:Aa t i=Fr:=by simp only [Aa,Cq];rw [DQ O];rfl
 rw [this];exact A2 _
theorem vY:∀ (t:Nd) (v:Aj) (D:Nat→Prop) (d:Nat) (w:Ae),Laid w→10≤w.heap.size→Bv w D t.j v→count t≤1000000→d≤1000000→Bz An 50 #[Cd t v,.int .i64 (d:Int)] w fun r w'=>r = .bool (Lb d t)∧G w w':=by
 refine Nd.ap fun t ih v D d w hL ar hk ai hd=>?_;have aj:=hk;obtain ⟨p,c,rfl,am,ah⟩:=hk;have g:=G.refl w;have al:=ED t;refine Cu 32 [0,1] Tryz.func50 ?_;refine CT fun _ _ _ _ g E=>?_;refine Ad ?_;refine GA (fun hc=>kS t _ _ _ (hL.A g) Dn) (DB fun an ao g E=>?_);refine Ad ?_;refine GA (fun hc=>Afm t _ _ D _ (aj.A g) O (fun i=>gO ai i)) (DB fun ak au g E=>?_);refine Aw (fun h1=>?_) fun h1=>?_
 have hN:Lb d t=false:=by
  rw [Bool.or_eq_true,Bool.or_eq_true,BM,Bool.not_eq_true',Bool.not_eq_true'] at h1;by_cases h0:d=0;rw [h0];exact Aaz t;rw [Y9 O];rcases h1 with (h1|h1)|h1;omega;rw [h1];rfl;rw [h1,Bool.and_false];rfl
 refine AN ?_;rw [hN];exact ⟨rfl,g⟩
 have af:0<d:=by
  rcases Nat.eq_zero_or_pos d with h0|h0;rw [h0] at h1;exact absurd h1 BR;exact h0
 have ae:(HJ t&&Ey t)=true:=by
  rw [F3,F3,Bool.not_eq_false',Bool.not_eq_false'] at h1;rw [h1.1.2,h1.2];rfl
 have hN:=Y9 af t;rw [ae,E0] at hN;refine CJ (Al (Am (Am (Au (AE AY J (AM Bh J (E.J.y J) (EI AC J (Ap J (Ai (Al (DF (Hi (fun (i:Nat) u1=>(i≤t.j.length∧∀ j,(h:j<t.j.length)→j<i→Lb (d-1) t.j[j]=true)∧G ak u1) [(1,True,_),(20,True,_),(21,True,_)] (fun (i:Nat)=>[(22,True,.int .i64 i)]) (fun (i:Nat)=>t.j.length-i) (0) ⟨⟨A2 _,fun j _ hj=>absurd hj (CC j)⟩,G.refl _⟩ Bp ?_))))))))))));rintro i u1 ⟨ac,aa⟩;have g:=g.trans aa;replace E:=E.A aa;refine Am (Au (GG J J (Ai (Al (Am (Cv J (fun h2=>?_) (fun h2=>?_)))))));have h2:i<t.j.length:=by simp only [BM] at h2;omega
 obtain ⟨b,o,rfl,hD,xs,hR,hX⟩:=ah O;obtain ⟨p',c',hcell,ad⟩:=JD hR hX h2;have aq:=KG h2;refine CJ (Al (Am (DF (Am (Au (Hn AC J J O (Ct A3 J J (hcell.A g) (A5 fun _ _ ga _ g E=>?_))))))));have ag:=ga.ge aa;have aa:=aa.trans (ga.g);refine AS fun _ ga _ g E=>?_;first|replace aa:=BJ aa ga O|clear aa|skip
 refine Ai (Al (Am (Au (Ct A3 J J E.J.row (Ap J (AR J (fun _=>zK (r:=((d-1:Nat):Int)) (Ab J) Bd (fun hc=>(by rw [XL ⟨O,O⟩];omega))) (F0 J (BF uE BX (Cn J (Cn J CI)) J) (ih _ (AA h2) _ _ (d-1) _ (hL.A g) Dn (ad.A g) O O) (fun ap ab=>?_))))))));have g:=g.trans ab;have aa:=aa.trans (ab);replace E:=E.A ab;refine Aw (fun h3=>?_) fun h3=>?_;(try simp only [BH] at h3);refine Cy ?_;rw [eq_comm,hN,CR];exact ⟨_,AA h2,by simpa using h3⟩;refine Ad ?_;refine Ci [22,1,20,21] ?_;refine Ai (fun a ha=>?_);refine ⟨i+1,ha,⟨⟨h2,fun j h hj=>?_⟩,aa⟩,O⟩;by_cases e:j=i;subst e;simpa using h3;exact ac.2 j h O;refine Cy ?_;rw [eq_comm,hN,Bu];intro x hx;obtain ⟨j,hj,rfl⟩:=CW hx;exact ac.2 j hj (by simp only [CB] at h2;omega)
def Hf(t:Nd):Bool:=Ac (t.k=1)&&Lb 50 t
theorem sR(t:Nd)(v:Aj)(D:Nat→Prop)(w:Ae)(hL:Laid w)(ab:10≤w.heap.size)(hk:Bv w D t.j v)(aa:count t≤1000000):Bz An 27 #[Cd t v] w fun r w'=>r = .bool (Hf t)∧G w w':=by
 have g:=G.refl w;refine Cu 10 [0] Tryz.func27 ?_;refine CT fun _ _ _ _ g E=>?_;refine Ad ?_;refine GA (fun hc=>vY t _ D 50 _ (hL.A g) Dn (hk.A g) aa BT) (DB fun w8 g8 g E=>?_);refine AN ?_;exact ⟨rfl,g⟩
def BN(t:Nd):Bool:=E7 t.k&&Cr t
def Eh(t:Nd):Bool:=Ac (t.k=10)&&Cr t
def D2(t:Nd):Bool:=L5 t.k&&Cr t
def HY(t:Nd):Bool:=Ac (t.k=18)&&Cr t
def Mx(t:Nd):Bool:=Ac (t.k=6)&&Cr t
def L9(t:Nd):Bool:=My t&&Cr t
def DH(t:Nd):Bool:=Ac (t.o=[])
def GU(t:Nd):Bool:=(Ac (t.k=9)&&Ac (t.o=[]))&&BV t 0
def Kj(t:Nd)(k:Int):Bool:=Ac (t.k=k)&&BN t
theorem jI{α:Type}{l:List α}(h:l.length=2):∃ a b,l=[a,b]:=by
 match l,h with|[a,b],_=>exact ⟨a,b,rfl⟩
theorem zF{α:Type}{l:List α}(h:l.length=3):∃ a b c,l=[a,b,c]:=by
 match l,h with|[a,b,c],_=>exact ⟨a,b,c,rfl⟩
theorem Kz(a k:Int):CV [a] k=Ac (k=a):=by simp [CV]
theorem Oi{t:Nd}(n:Nat)(h:t.j.length≠n):BV t (n:Int)=false:=by rw [BV,Aq];omega
theorem Uv{t:Nd}{qs:List (Int→Bool)}(h:t.j.length≠qs.length):Fb t qs=false:=by rw [Fb,Aq h,EY]
theorem aU{t:Nd}{f:Nd→Bool}:(BV t 0&&t.j.all f)=BV t 0:=by
 by_cases h:t.j.length=0;rw [Ju.1 h,List.all_nil,Ha];rw [show BV t 0=false from Oi 0 h];rfl
theorem XX{t:Nd}{q:Int→Bool}:(Fb t [q]&&t.j.all Cr)=(BV t 1&&(q (Aa t 0).k&&Cr (Aa t 0))):=by
 by_cases h:t.j.length=1;obtain ⟨a,ha⟩:=Jz.1 h;simp [BV,Fb,Aa,ha,Hp];rw [show BV t 1=false from Oi 1 h,Uv h];rfl
theorem Ue{t:Nd}{q q2:Int→Bool}:(Fb t [q,q2]&&t.j.all Cr)=(BV t 2&&((q (Aa t 0).k&&Cr (Aa t 0))&&(q2 (Aa t 1).k&&Cr (Aa t 1)))):=by
 by_cases h:t.j.length=2;obtain ⟨a,b,ha⟩:=jI h;simp [BV,Fb,Aa,ha,Hp];ac_rfl;rw [show BV t 2=false from Oi 2 h,Uv h];rfl
theorem Wp{t:Nd}{q q2 q3:Int→Bool}:(Fb t [q,q2,q3]&&t.j.all Cr)=(BV t 3&&(((q (Aa t 0).k&&Cr (Aa t 0))&&(q2 (Aa t 1).k&&Cr (Aa t 1)))&&(q3 (Aa t 2).k&&Cr (Aa t 2)))):=by
 by_cases h:t.j.length=3;obtain ⟨a,b,c,ha⟩:=zF h;simp [BV,Fb,Aa,ha,Hp];ac_rfl;rw [show BV t 3=false from Oi 3 h,Uv h];rfl
theorem zH{t:Nd}{f:Nd→Bool}:(BV t 1&&t.j.all f)=(BV t 1&&f (Aa t 0)):=by
 by_cases h:t.j.length=1;obtain ⟨a,ha⟩:=Jz.1 h;simp [BV,Aa,ha];rw [show BV t 1=false from Oi 1 h];rfl
theorem ZE{t:Nd}{f:Nd→Bool}:(BV t 2&&t.j.all f)=(BV t 2&&(f (Aa t 0)&&f (Aa t 1))):=by
 by_cases h:t.j.length=2;obtain ⟨a,b,ha⟩:=jI h;simp [BV,Aa,ha];rw [show BV t 2=false from Oi 2 h];rfl
theorem Rm{t:Nd}{q:Int→Bool}:(HU t q&&t.j.all Cr)=t.j.all fun k=>q k.k&&Cr k:=by
 rw [HU,FI];simp only [Cj,Bu];exact ⟨fun h k hk=>⟨h.1 k hk,h.2 k hk⟩,fun h=>⟨fun k hk=>(h k hk).1,fun k hk=>(h k hk).2⟩⟩
theorem qM{t:Nd}:(HU t E7&&t.j.all Cr)=t.j.all BN:=Rm
def HN(t:Nd):Bool :=
 bif Ac (t.k=24) then (DH t&&BV t 0)&&Ac (0≤t.num)
 else bif Ac (t.k=25) then (DH t&&BV t 0)&&(Ac (t.num=0) || Ac (t.num=1))
 else bif Ac (t.k=26) then DH t&&BV t 0
 else bif Cs [27,34] t.k then FK t.o&&BV t 0
 else bif Ac (t.k=28) then (FK t.o&&BV t 1)&&BN (Aa t 0)
 else bif Ac (t.k=29) then (DH t&&BV t 2)&&t.j.all BN
 else bif Ac (t.k=30) then (DH t&&Ac (1≤(t.j.length:Int)))&&t.j.all BN
 else bif Ac (t.k=31) then ((Ac (t.o=[45]) || Ac (t.o=[33]))&&BV t 1)&&BN (Aa t 0)
 else bif Ac (t.k=32) then (Ep Ky t.o&&BV t 2)&&t.j.all BN
 else bif Cs [33,35,36,37] t.k then (DH t&&BV t 1)&&BN (Aa t 0)
 else bif Ac (t.k=38) then (DH t&&BV t 1)&&Eh (Aa t 0)
 else false
theorem Qs{t:Nd}{X:Bool}:(X&&BV t 0)=((X&&BV t 0)&&t.j.all Cr):=by rw [Ao,aU]
theorem cO{t:Nd}{X Y:Bool}:((X&&BV t 0)&&Y)=((X&&(BV t 0&&Y))&&t.j.all Cr):=by
 rw [show ((X&&(BV t 0&&Y))&&t.j.all Cr)=((X&&Y)&&(BV t 0&&t.j.all Cr)) by simp only [Ao,Ht,Kh],aU];simp only [Ao,Ht,Kh]
theorem Lk{t:Nd}{X:Bool}{q:Int→Bool}:((X&&BV t 1)&&(q (Aa t 0).k&&Cr (Aa t 0)))=((X&&Fb t [q])&&t.j.all Cr):=by rw [Ao,Ao,XX]
theorem Ur{t:Nd}{X:Bool}:((X&&BV t 2)&&t.j.all BN)=((X&&Fb t [E7,E7])&&t.j.all Cr):=by rw [Ao,Ao,Ue,ZE];rfl
theorem Aal{t:Nd}{X Y Z:Bool}(h:Y=Z):((X&&Y)&&t.j.all BN)=((X&&(Z&&HU t E7))&&t.j.all Cr):=by rw [Ao,Ao,Ao,qM,h]
theorem LP(t:Nd):HN t=BN t:=by
 rw [BN,Je,I6];unfold HN HJ Ey;by_cases h:t.k=24;rw [h];exact cO;by_cases h1:t.k=25;rw [h1];exact cO;by_cases h2:t.k=26;rw [h2];exact Qs;by_cases h3:t.k=27;rw [h3];exact Qs;by_cases h4:t.k=34;rw [h4];exact Qs;by_cases h5:t.k=28;rw [h5];exact Lk;by_cases h6:t.k=29;rw [h6];exact Ur;by_cases h7:t.k=30;rw [h7];exact Aal (by rw [decide_eq_decide];omega);by_cases h8:t.k=31;rw [h8];exact Lk;by_cases h9:t.k=32;rw [h9];exact Ur;by_cases h10:t.k=33;rw [h10];exact Lk;by_cases h11:t.k=35;rw [h11];exact Lk;by_cases h12:t.k=36;rw [h12];exact Lk;by_cases h13:t.k=37;rw [h13];exact Lk;by_cases h14:t.k=38;rw [h14];refine Eq.trans ?_ (Lk (X:=DH t) (q:=CV [10]));rw [Kz];rfl;simp only [E7,Cs,Aq h,Aq h1,Aq h2,Aq h3,Aq h4,Aq h5,Aq h6,Aq h7,Aq h8,Aq h9,Aq h10,Aq h11,Aq h12,Aq h13,Aq h14,Gc,AQ,EY]
def S7(t:Nd):Bool:=bif !Ac (t.k=10) || !DH t then false else t.j.all D2
def S6(t:Nd):Bool:=bif (!Ac (t.k=18) || !DH t) || !BV t 3 then false else (BN (Aa t 0)&&Eh (Aa t 1))&&((Eh (Aa t 2) || HY (Aa t 2)) || GU (Aa t 2))
def SS(t:Nd):Bool:=(((Ac (t.k=6)&&FK t.o)&&BV t 2)&&He (Aa t 0))&&(GU (Aa t 1) || BN (Aa t 1))
theorem Tu(a b p:Bool):((a&&p) || (b&&p))=((b || a)&&p):=by cases a <;> cases b <;> cases p <;> rfl
theorem wH(a b c p:Bool):(((a&&p) || (b&&p)) || (c&&p))=(((a || b) || c)&&p):=by cases a <;> cases b <;> cases c <;> cases p <;> rfl
theorem VP(a b c:Bool):(bif !a || !b then false else c)=((a&&b)&&c):=by cases a <;> cases b <;> rfl
theorem vN(a b c d:Bool):(bif (!a || !b) || !c then false else d)=(((a&&b)&&c)&&d):=by cases a <;> cases b <;> cases c <;> rfl
theorem Pq(t:Nd):GU t=(Ac (t.k=9)&&Cr t):=by
 rw [GU];by_cases h:t.k=9;rw [Je,I6,HJ,Ey,h,Ao];exact congrArg (true && ·) Qs;rw [Aq h];rfl
theorem Ua(t:Nd):He t=(IE t.k&&Cr t):=by
 rw [Je,I6];unfold He HJ Ey;by_cases h:t.k=8;rw [h];exact Qs;by_cases h1:t.k=7;rw [h1];exact Qs;rw [Aq h,Aq h1,IE,Cs,Cs,Aq h,Aq h1];rfl
theorem YW(t:Nd):S7 t=Eh t:=by
 rw [S7,Eh,VP];by_cases h:t.k=10
 rw [Je,I6,HJ,Ey,h,Ao];exact congrArg (true && ·) (by
  refine Eq.trans ?_ (Ao (DH t) (HU t L5) _).symm;rw [Rm];rfl)
 rw [Aq h];rfl
theorem Zp(t:Nd):S6 t=HY t:=by
 rw [S6,vN,show HY t=(Ac (t.k=18)&&Cr t) from rfl];by_cases h:t.k=18
 rw [Je,I6,HJ,Ey,h,Ao,Ao];exact congrArg (true && ·) (by
  refine Eq.trans ?_ (Ao (DH t) (Fb t [E7,CV [10],CV [10,18,9]]) _).symm;rw [Wp,Kz,Pq,show CV [10,18,9] (Aa t 2).k=((Ac ((Aa t 2).k=10) || Ac ((Aa t 2).k=18)) || Ac ((Aa t 2).k=9)) by simp [CV,Bool.or_assoc],← wH];rfl)
 rw [Aq h];rfl
theorem Yf(t:Nd):SS t=Mx t:=by
 rw [SS,Mx];by_cases h:t.k=6
 rw [Je,I6,HJ,Ey,h,Ao,Ao,Ao];exact congrArg (true && ·) (by
  refine Eq.trans ?_ (Ao (FK t.o) (Fb t [IE,fun k=>E7 k || CV [9] k]) _).symm;rw [Ue,Kz,Pq,Ua,show BN (Aa t 1)=(E7 (Aa t 1).k&&Cr (Aa t 1)) from rfl,Tu])
 rw [Aq h];rfl
def Nb(t:Nd):Bool :=
 bif Cs [16,9] t.k then D2 t || GU t
 else bif Ac (t.k=13) then D2 t&&Ac ((Aa t 0).k=33)
 else bif Ac (t.k=12) then D2 t&&Ac ((Aa t 1).k=33)
 else bif Ac (t.k=11) then D2 t&&Ac ((Aa t 0).k=33)
 else false
theorem Vo{t:Nd}(h:t.k=13∨t.k=11)(hp:Cr t=true):t.j.length=1:=by
 rw [Je,I6,Cj,Cj] at hp;have hf:=hp.1.2;rcases h with h|h <;> rw [Ey,h] at hf
 have:Fb t [CV [30,33]]=true:=hf;rw [Fb,Cj,BM] at this;exact this.1;have:Fb t [E7]=true:=hf;rw [Fb,Cj,BM] at this;exact this.1
theorem QK{t:Nd}(h:t.k=12∨t.k=6)(hp:Cr t=true):t.j.length=2:=by
 rw [Je,I6,Cj,Cj] at hp;have hf:=hp.1.2;rcases h with h|h <;> rw [Ey,h] at hf
 have:Fb t [E7,E7]=true:=hf;rw [Fb,Cj,BM] at this;exact this.1;have:Fb t [IE,fun k=>E7 k || CV [9] k]=true:=hf;rw [Fb,Cj,BM] at this;exact this.1
theorem XE{a b c:Bool}(h:a=true→b=true):(a&&c)=((b&&c)&&a):=by revert h;cases a <;> cases b <;> cases c <;> simp
theorem Tj(t:Nd):Nb t=L9 t:=by
 rw [Nb,L9,Pq,D2];unfold My;by_cases h:t.k=16;rw [h];exact (show (Cr t || false)=_ from Gc _);by_cases h1:t.k=9;rw [h1];rfl;by_cases h2:t.k=13;have hl:Cr t=true→Ac (((t.j.length:Int)-1)=0)=true:=fun hp=>by rw [Vo (.inl h2) hp];rfl
 rw [h2];exact (show _=((Ac (((t.j.length:Int)-1)=0)&&Ac ((Aa t 0).k=33))&&Cr t) from XE hl);by_cases h3:t.k=12;have hl:Cr t=true→Ac (((t.j.length:Int)-1)=1)=true:=fun hp=>by rw [QK (.inl h3) hp];rfl
 rw [h3];exact (show _=((Ac (((t.j.length:Int)-1)=1)&&Ac ((Aa t 1).k=33))&&Cr t) from XE hl);by_cases h4:t.k=11;have hl:Cr t=true→Ac (((t.j.length:Int)-1)=0)=true:=fun hp=>by rw [Vo (.inr h4) hp];rfl
 rw [h4];exact (show _=((Ac (((t.j.length:Int)-1)=0)&&Ac ((Aa t 0).k=33))&&Cr t) from XE hl);simp only [Cs,Aq h,Aq h1,Aq h2,Aq h3,Aq h4,Gc,AQ,EY]
def Jv(t:Nd):Bool:=(((Ac (t.k=23)&&DH t)&&BV t 2)&&L9 (Aa t 0))&&Eh (Aa t 1)
theorem vF(t:Nd):Jv t=(Ac (t.k=23)&&Cr t):=by
 rw [Jv];by_cases h:t.k=23;rw [Je,I6,HJ,Ey,h];refine Eq.trans (b:=((DH t&&((BV t 2&&My (Aa t 0))&&CV [10] (Aa t 1).k))&&t.j.all Cr)) ?_ rfl;rw [Kz,show ((DH t&&((BV t 2&&My (Aa t 0))&&Ac ((Aa t 1).k=10)))&&t.j.all Cr)=((DH t&&(My (Aa t 0)&&Ac ((Aa t 1).k=10)))&&(BV t 2&&t.j.all Cr)) by ac_rfl,ZE,L9,Eh];show (((DH t&&BV t 2)&&_)&&_)=_;ac_rfl;rw [Aq h];rfl
def Rr(t:Nd):Bool:=t.j.all Jv&&DH t
theorem Zf{t:Nd}(h:t.k=22):Rr t=Cr t:=by
 rw [Je,I6,HJ,Ey,h];refine Eq.trans (b:=((DH t&&HU t (CV [23]))&&t.j.all Cr)) ?_ rfl;rw [Ao,Rm,Rr,Ht];congr 2;funext k;rw [vF,Kz]
def GP(t:Nd):Bool :=
 bif Ac (t.k=6) then Mx t
 else bif Ac (t.k=10) then Eh t
 else bif Ac (t.k=18) then HY t
 else bif Ac (t.k=22) then Cr t
 else bif Ac (t.k=11) then (FK t.o&&BV t 1)&&BN (Aa t 0)
 else bif Cs [12,16] t.k then (DH t&&BV t 2)&&t.j.all BN
 else bif Ac (t.k=13) then (DH t&&BV t 1)&&(Kj (Aa t 0) 30 || Kj (Aa t 0) 33)
 else bif Cs [14,15] t.k then (DH t&&BV t 1)&&Kj (Aa t 0) 30
 else bif Cs [17,21] t.k then (DH t&&BV t 1)&&BN (Aa t 0)
 else bif Ac (t.k=20) then (DH t&&Ac ((t.j.length:Int)≤1))&&t.j.all BN
 else bif Ac (t.k=19) then ((DH t&&BV t 2)&&(GU (Aa t 0) || BN (Aa t 0)))&&Eh (Aa t 1)
 else false
theorem Wi(t:Nd):Kj t 30=(CV [30] t.k&&Cr t):=by
 rw [Kj,Kz,BN];by_cases h:t.k=30;rw [h];rfl;rw [Aq h];rfl
theorem yM(t:Nd):Kj t 33=(Ac (t.k=33)&&Cr t):=by
 rw [Kj,BN];by_cases h:t.k=33;rw [h];rfl;rw [Aq h];rfl
theorem mT(t:Nd):(Kj t 30 || Kj t 33)=(CV [30,33] t.k&&Cr t):=by
 rw [Wi,yM,Tu,Kz];congr 1;simp [CV,Bool.or_comm]
theorem Afw{t:Nd}:(Ac ((t.j.length:Int)≤1)&&t.j.all BN)=((BV t 0 || Fb t [E7])&&t.j.all Cr):=by
 by_cases h:t.j.length=0;rw [Ju.1 h,show BV t 0=true by rw [BV,BM];omega];rfl;by_cases h1:t.j.length=1;rw [show BV t 0=false from Oi 0 h,Bool.false_or,XX,show Ac ((t.j.length:Int)≤1)=BV t 1 by rw [BV,decide_eq_decide];omega,zH];rfl;rw [show BV t 0=false from Oi 0 h,Uv h1,Aq O];rfl
theorem KX(t:Nd):GP t=D2 t:=by
 rw [D2];by_cases h:t.k=6;rw [GP,Mx,h];rfl;by_cases h1:t.k=10;rw [GP,Eh,h1];rfl;by_cases h2:t.k=18;rw [GP,HY,h2];rfl;by_cases h3:t.k=22;rw [GP,h3];rfl;rw [Je,I6];unfold GP HJ Ey;by_cases h4:t.k=11;rw [h4];exact Lk;by_cases h5:t.k=12;rw [h5];exact Ur;by_cases h6:t.k=16;rw [h6];exact Ur;by_cases h7:t.k=13;rw [h7];refine Eq.trans ?_ (Lk (X:=DH t) (q:=CV [30,33]));rw [← mT];rfl;by_cases h8:t.k=14;rw [h8];refine Eq.trans ?_ (Lk (X:=DH t) (q:=CV [30]));rw [← Wi];rfl;by_cases h9:t.k=15;rw [h9];refine Eq.trans ?_ (Lk (X:=DH t) (q:=CV [30]));rw [← Wi];rfl;by_cases h10:t.k=17;rw [h10];exact Lk;by_cases h11:t.k=21;rw [h11];exact Lk;by_cases h12:t.k=20;rw [h12];refine Eq.trans (b:=(DH t&&Ac ((t.j.length:Int)≤1))&&t.j.all BN) rfl ?_;rw [Ao,Afw,← Ao];rfl;by_cases h13:t.k=19;rw [h13];refine Eq.trans (b:=((DH t&&BV t 2)&&(GU (Aa t 0) || BN (Aa t 0)))&&Eh (Aa t 1)) J (Eq.trans (b:=((DH t&&Fb t [fun k=>E7 k || CV [9] k,CV [10]])&&t.j.all Cr)) ?_ J);rw [Ao (DH t) (Fb t _),Ue,Kz,Kz,Pq,show BN (Aa t 0)=(E7 (Aa t 0).k&&Cr (Aa t 0)) from rfl,Tu,Eh];ac_rfl;simp only [L5,Cs,Aq h,Aq h1,Aq h2,Aq h3,Aq h4,Aq h5,Aq h6,Aq h7,Aq h8,Aq h9,Aq h10,Aq h11,Aq h12,Aq h13,Gc,AQ,EY]
structure Ni (t:Nd):Prop where
  ex:∀ (p:Option Addr) (c:Nat) (D:Nat→Prop) (w:Ae),Bv w D t.j (.slice p t.j.length c)→Bz An 97 #[Cd t (.slice p t.j.length c)] w fun r w'=>r = .bool (BN t)∧G w w'
  bl:∀ (p:Option Addr) (c:Nat) (D:Nat→Prop) (w:Ae),Bv w D t.j (.slice p t.j.length c)→Bz An 82 #[Cd t (.slice p t.j.length c)] w fun r w'=>r = .bool (Eh t)∧G w w'
  st:∀ (p:Option Addr) (c:Nat) (D:Nat→Prop) (w:Ae),Bv w D t.j (.slice p t.j.length c)→Bz An 99 #[Cd t (.slice p t.j.length c)] w fun r w'=>r = .bool (D2 t)∧G w w'
  fi:∀ (p:Option Addr) (c:Nat) (D:Nat→Prop) (w:Ae),Bv w D t.j (.slice p t.j.length c)→Bz An 129 #[Cd t (.slice p t.j.length c)] w fun r w'=>r = .bool (HY t)∧G w w'
  cm:∀ (p:Option Addr) (c:Nat) (D:Nat→Prop) (w:Ae),Bv w D t.j (.slice p t.j.length c)→Bz An 155 #[Cd t (.slice p t.j.length c)] w fun r w'=>r = .bool (L9 t)∧G w w'
def La(t:Nd):Prop:=∀ k,count k<count t→Ni k
theorem La.a6{t:Nd}(ih:La t){i:Nat}(h:i<t.j.length):Ni (Aa t i):=by
 refine ih _ ?_;rw [Em h];have:=MW (AA h);omega
theorem MI{w:Ae}{D:Nat→Prop}{t:Nd}{p:Option Addr}{c:Nat}(hk:Bv w D t.j (.slice p t.j.length c))(ih:La t)(i:Nat):∃ p' c',i<t.j.length→p=some ⟨E5 p,Gu p,none⟩∧CQ w (E5 p) (Gu p+i*9) (De (Aa t i) (.slice p' (Aa t i).j.length c'))∧Bv w D (Aa t i).j (.slice p' (Aa t i).j.length c')∧Ni (Aa t i):=by
 obtain ⟨p',c',h⟩:=Un hk i;exact ⟨p',c',fun hi=>⟨(h hi).1,(h hi).2.1,(h hi).2.2,ih.a6 hi⟩⟩
theorem Qt(t:Nd)(p:Option Addr)(c:Nat)(w:Ae):Bz An 80 #[Cd t (.slice p t.j.length c)] w fun r w'=>r = .bool (GU t)∧G w w':=by
 have g:=G.refl w;refine Cu 17 [0] Tryz.func80 ?_;refine CT fun _ _ _ _ g E=>?_;refine AN ?_;exact ⟨rfl,g⟩
theorem Rf(l:List Nd)(p:Option Addr)(c:Nat)(D:Nat→Prop)(w:Ae)(hk:Bv w D l (.slice p l.length c))(hr:∀ k∈l,Ni k)(ah:l.length≤1000000):Bz An 127 #[.slice p l.length c] w fun r w'=>r = .bool (l.all BN)∧G w w':=by
 have g:=G.refl w;obtain ⟨p',c',hpe,_,ae⟩:=hk;injection hpe with hpe _ af;subst hpe af;refine Cu 16 [0] Tryz.func127 ?_;refine Ad ?_;refine Hi (fun (i:Nat) u1=>(i≤l.length∧∀ j,(h:j<l.length)→j<i→BN l[j]=true)∧G w u1) [(0,True,_)] (fun (i:Nat)=>[(3,True,.int .i64 i)]) (fun (i:Nat)=>l.length-i) (0) ⟨⟨A2 _,fun j _ hj=>absurd hj (CC j)⟩,G.refl _⟩ Bp ?_;rintro i u1 ⟨ab,aa⟩;have g:=g.trans aa;refine Am (Am (Au (Ap J (Ap J (EI AC J (GG J J (Ai (Al (Cv J (fun h1=>?_) (fun h1=>?_))))))))));have h1:i<l.length:=by simp only [BM] at h1;omega
 obtain ⟨b,o,rfl,hD,xs,hR,hX⟩:=ae O;obtain ⟨p',c',hcell,ac⟩:=JD hR hX h1;refine CJ (Al (Am (DF (Am (Au (Ap J (Ap J (Hn AC J J O (Ct A3 J J (hcell.A g) (F0 J (BF NB BX (Cn J CI) J) ((hr _ (AA h1)).ex _ _ D _ (ac.A g)) (fun ag ad=>?_)))))))))));have g:=g.trans ad;have aa:=aa.trans (ad);refine Aw (fun h2=>?_) fun h2=>?_;(try simp only [BH] at h2);refine Cy ?_;rw [eq_comm,CR];exact ⟨_,AA h1,by simpa using h2⟩;refine Ad ?_;refine Ci [3,0] ?_;refine Ai (fun a ha=>?_);refine ⟨i+1,ha,⟨⟨h1,fun j h hj=>?_⟩,aa⟩,O⟩;by_cases e:j=i;subst e;simpa using h2;exact ab.2 j h O;refine Cy ?_;rw [eq_comm,Bu];intro x hx;obtain ⟨j,hj,rfl⟩:=CW hx;exact ab.2 j hj (by simp only [CB] at h1;omega)
theorem Wed(t:Nd)(n:Int)(p:Option Addr)(c:Nat)(D:Nat→Prop)(w:Ae)(hk:Bv w D t.j (.slice p t.j.length c))(h:Ni t):Bz An 131 #[Cd t (.slice p t.j.length c),.int .i64 n] w fun r w'=>r = .bool (Kj t n)∧G w w':=by
 have g:=G.refl w;refine Cu 13 [0,1] Tryz.func131 ?_;refine CT fun _ _ _ _ g E=>?_;refine Ad ?_;refine GA (fun hc=>h.ex _ _ D _ (hk.A g)) (DB fun aa ab g E=>?_);refine AN ?_;exact ⟨rfl,g⟩
theorem Aev(t:Nd)(p:Option Addr)(c:Nat)(D:Nat→Prop)(w:Ae)(hk:Bv w D t.j (.slice p t.j.length c))(ih:La t)(ah:t.j.length≤1000000):Bz An 97 #[Cd t (.slice p t.j.length c)] w fun r w'=>r = .bool (BN t)∧G w w':=by
 rw [← LP];have g:=G.refl w;obtain ⟨p0,c0,aa⟩:=MI hk ih 0;have hr:∀ k∈t.j,Ni k:=fun k hk=>ih k (MW hk);refine Cu 165 [0] Tryz.func97 ?_;refine CT fun _ _ _ _ g E=>?_;refine Aw (fun h1=>?_) fun h1=>?_;(try simp only [BH] at h1);refine Cy ?_;unfold HN;simp only [Cs,h1,AL,AQ] <;> rfl
 refine Aw (fun h2=>?_) fun h2=>?_;(try simp only [BH] at h2);refine Cy ?_;unfold HN;simp only [Cs,h1,h2,AL,AQ] <;> rfl
 refine Aw (fun h3=>?_) fun h3=>?_;(try simp only [BH] at h3);refine Cy ?_;unfold HN;simp only [Cs,h1,h2,h3,AL,AQ] <;> rfl
 refine Ad ?_;refine' A1 [1,2,3,4,12] (fun a4=>?y4) (Al ?n4)
 case y4 =>
  refine Ad ?_;refine Ci [49,1,2,3,4,12] ?_;exact Ai A0
 case n4 =>
  refine Aw (fun h5=>?_) fun h5=>?_;(try simp only [BH] at h5);refine Ad ?_;refine DI (NK _ _) (DB fun a5 a3 g E=>?_);refine Cy ?_;unfold HN;simp only [Cs,h1,h2,h3,h5,AL,AQ] <;> rfl
  refine Aw (fun h6=>?_) fun h6=>?_;(try simp only [BH] at h6);refine Am (Au (AE E2 J (AM DW J (E.J.y J) (F0 J (BF TJ BX (Cn J CI) J) (NK _ _) (fun ay ai=>?_)))));have g:=g.trans ai;replace E:=E.A ai;refine Ap J (Ay J J J (Bm J) (Ay J J J (fun _=>Gk (Ah J id) Bd) (AR J (fun _=>Et (Ab J) (Ah J id)) (Ap J (Ay J J J (fun _=>AB AY (Ab J)) (BQ J J J (AZ Bh (Ah J id) (fun _=>E.J.y J)) (Ay J J J (fun _=>CS AC (Ah J id) Bd (fun hc=>FE (hc.2)) (fun hc=>(aa Eu).1)) (BQ J J J (A8 A3 (Ah J id) J (fun hc=>(aa Eu).2.1.A g)) (Ff J J J (fun _=>(BF NB BX (CM (Ah J id) (DC)) J)) (fun hc=>(aa Eu).2.2.2.ex _ _ D _ ((aa Eu).2.2.1.A g)) (fun az aj=>?_))))))))));have g:=g.trans aj;replace E:=E.A aj;refine Cy ?_;unfold HN;simp only [Cs,h1,h2,h3,h5,h6,AL,AQ] <;> rfl
  refine Aw (fun h7=>?_) fun h7=>?_;(try simp only [BH] at h7);refine Ad ?_;refine GA (fun hc=>Rf _ _ _ D _ (hk.A g) hr ah) (DB fun a1 a2 g E=>?_);refine Cy ?_;unfold HN;simp only [Cs,h1,h2,h3,h5,h6,h7,AL,AQ] <;> rfl
  refine Aw (fun h8=>?_) fun h8=>?_;(try simp only [BH] at h8);refine Am (Au (Ap J (Ap J (Ay J J J (Bm J) (Ay J J J (fun _=>Q8 (Ah J id) Bd) (AR J (fun _=>Et (Ab J) (Ah J id)) (Ap J (Ay J J J (fun _=>AB AY (Ab J)) (BQ J J J (AZ Bh (Ah J id) (fun _=>E.J.y J)) (Ff J J J (fun _=>(BF XW BX (CM (Ah J id) (DC)) J)) (fun hc=>Rf _ _ _ D _ (hk.A g) hr ah) (fun ax ak=>?_)))))))))));have g:=g.trans ak;replace E:=E.A ak;refine AR J (fun _=>Et (Ab J) (Ah J id)) (Bj J (Ai (Al (Dl (Fp J J ?_)))));refine ⟨Ig ?_,g⟩;unfold HN;simp only [Cs,h1,h2,h3,h5,h6,h7,h8,AL,AQ] <;> rfl
  refine Am (Au (Fy J J (Bj J (Ai (Al (Cv J (fun h9=>?_) (fun h9=>?_)))))));(try simp only [BH] at h9);refine Am (Au (AE E2 J (AM DW J (E.J.y J) (MD J J (Ap J (Ay J J J (fun _=>AB E2 (Ab J)) (BQ J J J (AZ DW (Ah J id) (fun _=>E.J.y J)) (Ay J J J (fun _=>OB (Ah J id) Bd) (AR J (fun _=>FR (Ab J) (Ah J id)) (Ap J (Ay J J J (Bm J) (Ay J J J (fun _=>Gk (Ah J id) Bd) (AR J (fun _=>Et (Ab J) (Ah J id)) (Ap J (Ay J J J (fun _=>AB AY (Ab J)) (?_))))))))))))))));refine BQ J J J (AZ Bh (Ah J id) (fun _=>E.J.y J)) (Ay J J J (fun _=>CS AC (Ah J id) Bd (fun hc=>FE (hc.2)) (fun hc=>(aa Eu).1)) (BQ J J J (A8 A3 (Ah J id) J (fun hc=>(aa Eu).2.1.A g)) (Ff J J J (fun _=>(BF NB BX (CM (Ah J id) (DC)) J)) (fun hc=>(aa Eu).2.2.2.ex _ _ D _ ((aa Eu).2.2.1.A g)) (fun ap ag=>?_))));have g:=g.trans ag;replace E:=E.A ag;refine Cy ?_;unfold HN;simp only [Cs,h1,h2,h3,h5,h6,h7,h8,h9,AL,AQ] <;> rfl
  refine Aw (fun ab=>?_) fun ab=>?_;(try simp only [BH] at ab);refine Ad ?_;refine DI (Acb _ _) (DB fun ao av g E=>?_);refine Ad ?_;refine GA (fun hc=>Rf _ _ _ D _ (hk.A g) hr ah) (DB fun am au g E=>?_);refine Cy ?_;unfold HN;simp only [Cs,h1,h2,h3,h5,h6,h7,h8,h9,ab,AL,AQ] <;> rfl
  refine Ad ?_;refine' A1 [1,2,3,4,12] (fun an=>?y11) (Al ?n11)
  case y11 =>
   refine Ad ?_;refine' A1 [1,2,3,4,12] (fun aq=>?y12) A0
   case y12 =>
    refine Ad ?_;refine' A1 [1,2,3,4,12] (fun aw=>?y13) A0
    case y13 =>
     refine Ad ?_;refine Ci [134,1,2,3,4,12] ?_;exact Ai A0
  case n11 =>
   refine Cv J (fun ac=>?_) (fun ac=>?_);(try simp only [BH] at ac);refine Am (Au (Ap J (Ap J (Ay J J J (Bm J) (Ay J J J (fun _=>Gk (Ah J id) Bd) (AR J (fun _=>Et (Ab J) (Ah J id)) (Ap J (Ay J J J (fun _=>AB AY (Ab J)) (BQ J J J (AZ Bh (Ah J id) (fun _=>E.J.y J)) (Ay J J J (fun _=>CS AC (Ah J id) Bd (fun hc=>FE (hc.2)) (fun hc=>(aa Eu).1)) (BQ J J J (A8 A3 (Ah J id) J (fun hc=>(aa Eu).2.1.A g)) (Ff J J J (fun _=>(BF NB BX (CM (Ah J id) (DC)) J)) (fun hc=>(aa Eu).2.2.2.ex _ _ D _ ((aa Eu).2.2.1.A g)) (fun ar ae=>?_)))))))))))));have g:=g.trans ae;replace E:=E.A ae;refine Cy ?_;unfold HN;simp only [Cs,h1,h2,h3,h5,h6,h7,h8,h9,ab,ac,AL,AQ] <;> rfl
   refine Am (Au (Fy J J (Bj J (Ai (Al (Cv J (fun ad=>?_) (fun ad=>?_)))))));(try simp only [BH] at ad);refine Am (Au (Ap J (Ap J (Ay J J J (Bm J) (Ay J J J (fun _=>Gk (Ah J id) Bd) (AR J (fun _=>Et (Ab J) (Ah J id)) (Ap J (Ay J J J (fun _=>AB AY (Ab J)) (BQ J J J (AZ Bh (Ah J id) (fun _=>E.J.y J)) (Ay J J J (fun _=>CS AC (Ah J id) Bd (fun hc=>FE (hc.2)) (fun hc=>(aa Eu).1)) (BQ J J J (A8 A3 (Ah J id) J (fun hc=>(aa Eu).2.1.A g)) (Ff J J J (fun _=>(BF QT BX (CM (Ah J id) (DC)) J)) (fun hc=>(aa Eu).2.2.2.bl _ _ D _ ((aa Eu).2.2.1.A g)) (fun al af=>?_)))))))))))));have g:=g.trans af;replace E:=E.A af;refine Cy ?_;unfold HN;simp only [Cs,h1,h2,h3,h5,h6,h7,h8,h9,ab,ac,ad,AL,AQ] <;> rfl
   refine Cy ?_;unfold HN;simp only [Cs,h1,h2,h3,h5,h6,h7,h8,h9,ab,ac,ad,AL,AQ] <;> rfl
theorem dP(t:Nd)(p:Option Addr)(c:Nat)(D:Nat→Prop)(w:Ae)(hk:Bv w D t.j (.slice p t.j.length c))(ih:La t)(af:t.j.length≤1000000):Bz An 82 #[Cd t (.slice p t.j.length c)] w fun r w'=>r = .bool (Eh t)∧G w w':=by
 rw [← YW,S7];have g:=G.refl w;refine Cu 26 [0] Tryz.func82 ?_;refine CT fun _ w1 _ _ g E=>?_;refine Aw (fun h1=>?_) fun h1=>?_;have h1:(!Ac (t.k=10) || !DH t)=true:=h1;refine Cy ?_;rw [h1];rfl;have h1:(!Ac (t.k=10) || !DH t)=false:=h1;refine Ad ?_;refine Hi (fun (i:Nat) u1=>(i≤t.j.length∧∀ j,(h:j<t.j.length)→j<i→D2 t.j[j]=true)∧G w1 u1) [(1,True,_)] (fun (i:Nat)=>[(3,True,.int .i64 i)]) (fun (i:Nat)=>t.j.length-i) (0) ⟨⟨A2 _,fun j _ hj=>absurd hj (CC j)⟩,G.refl _⟩ Bp ?_;rintro i u1 ⟨ac,aa⟩;have g:=g.trans aa;replace E:=E.A aa;refine Aw (fun h2=>?_) fun h2=>?_;have h2:i<t.j.length:=by simp only [BM] at h2;omega
 obtain ⟨hpe,p2,c2,hcell,ad⟩:=Ba hk h2;have hr:=ih.a6 h2;refine Ad ?_;refine DI (hr.st _ _ D _ (ad.A g)) (fun ae ab=>?_);have g:=g.trans ab;have aa:=aa.trans (ab);replace E:=E.A ab;refine Aw (fun h3=>?_) fun h3=>?_;(try simp only [BH] at h3);refine Cy ?_;rw [h1,AQ,eq_comm,CR];exact ⟨_,AA h2,by rw [← Em h2];simpa using h3⟩;refine Ad ?_;refine Ci [3,1] ?_;refine Ai (fun a ha=>?_);refine ⟨i+1,ha,⟨⟨h2,fun j h hj=>?_⟩,aa⟩,O⟩;by_cases e:j=i;subst e;rw [← Em h2];simpa using h3;exact ac.2 j h O;refine Cy ?_;rw [h1,AQ,eq_comm,Bu];intro x hx;obtain ⟨j,hj,rfl⟩:=CW hx;exact ac.2 j hj (by simp only [CB] at h2;omega)
theorem cI(t:Nd)(p:Option Addr)(c:Nat)(D:Nat→Prop)(w:Ae)(hk:Bv w D t.j (.slice p t.j.length c))(ih:La t):Bz An 129 #[Cd t (.slice p t.j.length c)] w fun r w'=>r = .bool (HY t)∧G w w':=by
 rw [← Zp,S6];have g:=G.refl w;refine JB (m:=46) Tryz.func129 J J [(0,True,_)] Bp ?_;refine Am (Au (CT fun _ _ _ _ g E=>?_));refine Bj J (Ai (Al (Am (Am (Au (AE FP J (AM Cb J (E.J.y J) (MH J J (Ap J (Ay J J J (fun _=>AB E2 (Ab J)) (BQ J J J (AZ DW (Ah J id) (fun _=>E.J.y J)) (Ay J J J (fun _=>R4 (Ah J id) Bd) (AR J (fun _=>FR (Ab J) (Ah J id)) (Ap J (Ay J J J (fun _=>AB AY (Ab J)) (BQ J J J (AZ Bh (Ah J id) (fun _=>E.J.y J)) (?_)))))))))))))))));refine Ay J J J (fun _=>Lp AC (Ah J id)) (Ay J J J (fun _=>IA (Ah J id) Bd) (AR J (fun _=>FR (Ab J) (Ah J id)) (Ai (Al (Cv J (fun h1=>?_) (fun h1=>?_))))));have h1:((!Ac (t.k=18) || !DH t) || !BV t 3)=true:=h1;refine Am (Au (Bj J (Ai (Al (Dl (Fp J J ?_))))));refine ⟨Ig ?_,g⟩;rw [h1];rfl;have h1:((!Ac (t.k=18) || !DH t) || !BV t 3)=false:=h1;have an:t.j.length=3:=by simp only [BV,F3,Bool.not_eq_false',BM] at h1;omega
 obtain ⟨hpe,p0,c0,ad,af⟩:=Ba hk (i:=0) O;obtain ⟨_,p1,c1,ac,ae⟩:=Ba hk (i:=1) O;obtain ⟨_,p2,c2,ab,aa⟩:=Ba hk (i:=2) O;have aj:=ih.a6 (i:=0) O;have ak:=ih.a6 (i:=1) O;have ag:=ih.a6 (i:=2) O;refine CJ (Al (Am (Au (AE AY J (AM Bh J (E.J.y J) (Dk AC J J O hpe (Ct A3 J J (ab.A g) (A5 fun _ _ _ _ g E=>?_))))))));refine AS fun _ _ _ g E=>?_;refine Ai (Al (Am (Au (AE AY J (AM Bh J (E.U.y J) (Dk AC J J O hpe (Ct A3 J J (ad.A g) (F0 J (BF NB BX (Cn J CI) J) (aj.ex _ _ D _ (af.A g)) (fun al ai=>?_)))))))));have g:=g.trans ai;replace E:=E.A ai;refine Ap J (Ay J J J (fun _=>AB AY (Ab J)) (BQ J J J (AZ Bh (Ah J id) (fun _=>E.U.y J)) (Ay J J J (fun _=>CS AC (Ah J id) Bd (fun _=>O) (fun _=>hpe)) (BQ J J J (A8 A3 (Ah J id) J (fun _=>ac.A g)) (Ff J J J (fun _=>(BF QT BX (CM (Ah J id) (DC)) J)) (fun hc=>ak.bl _ _ D _ (ae.A g)) (fun am ah=>?_))))));have g:=g.trans ah;replace E:=E.A ah;refine Ad ?_;refine GA (fun hc=>ag.bl _ _ D _ (aa.A g)) (DB fun aq av g E=>?_);refine Ad ?_;refine GA (fun hc=>ag.fi _ _ D _ (aa.A g)) (DB fun ao ap g E=>?_);refine Ad ?_;refine GA (fun hc=>Qt _ _ _ _) (DB fun au ar g E=>?_);refine Cy ?_;rw [h1];rfl
theorem YL(t:Nd)(p:Option Addr)(c:Nat)(D:Nat→Prop)(w:Ae)(hk:Bv w D t.j (.slice p t.j.length c))(ih:La t):Bz An 79 #[Cd t (.slice p t.j.length c)] w fun r w'=>r = .bool (Mx t)∧G w w':=by
 rw [← Yf,SS];have g:=G.refl w;obtain ⟨p0,c0,ad⟩:=MI hk ih 0;obtain ⟨p1,c1,aa⟩:=MI hk ih 1;refine Cu 38 [0] Tryz.func79 ?_;refine CT fun _ _ _ _ g E=>?_;refine Ad ?_;refine GA (fun hc=>NK _ _) (DB fun w9 g9 g E=>?_);refine Ad ?_;refine Ay J J J (fun _=>CS AC (Ah J id) Bd (fun hc=>FE (hc.2)) (fun hc=>(ad Eu).1)) (BQ J J J (A8 A3 (Ah J id) J (fun hc=>(ad Eu).2.1.A g)) (GA (fun hc=>TN _ _ _ _) (fun af ac=>?_)));have g:=g.trans ac;replace E:=E.A ac;refine AR J (fun _=>Et (Ab J) (Ah J id)) (Ap J (Ay J J J (fun _=>AB AY (Ab J)) (BQ J J J (AZ Bh (Ah J id) (fun _=>E.J.y J)) (Ay J J J (fun _=>CS AC (Ah J id) Bd (fun hc=>FE (hc.2)) (fun hc=>(aa Eu).1)) (BQ J J J (A8 A3 (Ah J id) J (fun hc=>(aa Eu).2.1.A g)) (Ff J J J (fun _=>(BF WQ BX (CM (Ah J id) (DC)) J)) (fun hc=>Qt _ _ _ _) (fun ah ae=>?_)))))));have g:=g.trans ae;replace E:=E.A ae
 refine Ay J J J (fun _=>J1 (Ah J id)) (Ay J J J (fun _=>AB AY (Ab J)) (BQ J J J (AZ Bh (Ah J id) (fun _=>E.J.y J)) (Ay J J J (fun _=>CS AC (Ah J id) Bd (fun hc=>FE (hc.1.2)) (fun hc=>(aa (I1 hc.1.2)).1)) (BQ J J J (A8 A3 (Ah J id) J (fun hc=>(aa (I1 hc.1.2)).2.1.A g)) (Ff J J J (fun _=>(BF NB BX (CM (Ah J id) (DC)) J)) (fun hc=>(aa (I1 hc.1.2)).2.2.2.ex _ _ D _ ((aa (I1 hc.1.2)).2.2.1.A g)) (fun ag ab=>?_))))));have g:=g.trans ab;replace E:=E.A ab;refine AN ?_;exact ⟨rfl,g⟩
theorem HH{t:Nd}{i:Nat}(h:i<t.j.length):count (Aa t i)<count t:=by
 rw [Em h];have:=MW (AA h);omega
theorem Zm{t:Nd}(ih:La t){i:Nat}(h:i<t.j.length):La (Aa t i):=fun k hk=>ih k (Nat.lt_trans hk (HH h))
theorem gP(t:Nd):(!Jv t)=((((!Ac (t.k=23) || !DH t) || !BV t 2) || !L9 (Aa t 0)) || !Eh (Aa t 1)):=by
 rw [Jv];cases Ac (t.k=23) <;> cases DH t <;> cases BV t 2 <;> cases L9 (Aa t 0) <;> cases Eh (Aa t 1) <;> rfl
theorem mO(t:Nd)(p:Option Addr)(c:Nat)(D:Nat→Prop)(w:Ae)(hk:Bv w D t.j (.slice p t.j.length c))(ih:La t)(aj:t.j.length≤1000000):Bz An 130 #[Cd t (.slice p t.j.length c)] w fun r w'=>r = .bool (Rr t)∧G w w':=by
 have g:=G.refl w;refine Cu 50 [0] Tryz.func130 ?_;refine Am (Au (CT fun _ w1 _ _ g E=>?_));refine Bj J (Ai (Al (Am (Am (Au (Bj J (Ai (Al (DF (Hi (fun (i:Nat) u1=>(i≤t.j.length∧∀ j,(h:j<t.j.length)→j<i→Jv t.j[j]=true)∧G w1 u1) [(1,True,_)] (fun (i:Nat)=>[(3,True,.int .i64 i)]) (fun (i:Nat)=>t.j.length-i) (0) ⟨⟨A2 _,fun j _ hj=>absurd hj (CC j)⟩,G.refl _⟩ Bp ?_))))))))));rintro i u1 ⟨ag,aa⟩;have g:=g.trans aa;replace E:=E.A aa;refine Am (Am (Au (Ap J (AE AY J (AM Bh J (E.J.y J) (EI AC J (GG J J (Ai (Al (Cv J (fun h1=>?_) (fun h1=>?_)))))))))));have h1:i<t.j.length:=by simp only [BM] at h1;omega
 obtain ⟨hpe,p2,c2,hcell,ad⟩:=Ba hk h1;obtain ⟨p3,c3,ac⟩:=MI ad (Zm ih h1) 0;obtain ⟨p4,c4,ab⟩:=MI ad (Zm ih h1) 1;refine CJ (Al (Am (DF (Am (Au (AE AY J (AM Bh J (E.J.y J) (Ap J (Dk AC J J O hpe (Ct A3 J J (hcell.A g) (A5 fun _ _ ga _ g E=>?_)))))))))));have ah:=ga.ge aa;have aa:=aa.trans (ga.g);refine AS fun _ ga _ g E=>?_;first|replace aa:=BJ aa ga O|clear aa|skip
 refine Ai (Al (Am (Au (AE FP J (AM Cb J (E.J.y J) (MH J J (Ap J (Ay J J J (fun _=>AB E2 (Ab J)) (BQ J J J (AZ DW (Ah J id) (fun _=>E.J.y J)) (Ay J J J (fun _=>R4 (Ah J id) Bd) (AR J (fun _=>FR (Ab J) (Ah J id)) (Ap J (Ay J J J (fun _=>AB AY (Ab J)) (BQ J J J (AZ Bh (Ah J id) (fun _=>E.J.y J)) (Ay J J J (fun _=>Lp AC (Ah J id)) (Ay J J J (fun _=>IA (Ah J id) Bd) (?_)))))))))))))))));refine AR J (fun _=>FR (Ab J) (Ah J id)) (Ap J (Ay J J J (fun _=>AB AY (Ab J)) (BQ J J J (AZ Bh (Ah J id) (fun _=>E.J.y J)) (Ay J J J (fun _=>CS AC (Ah J id) Bd (fun hc=>FE (hc.2)) (fun hc=>(ac Eu).1)) (BQ J J J (A8 A3 (Ah J id) J (fun hc=>(ac Eu).2.1.A g)) (Ff J J J (fun _=>(BF yH BX (CM (Ah J id) (DC)) J)) (fun hc=>(ac Eu).2.2.2.cm _ _ D _ ((ac Eu).2.2.1.A g)) (fun ai ae=>?_)))))));have g:=g.trans ae;have aa:=aa.trans (ae);replace E:=E.A ae
 refine Ay J J J (fun _=>PD (Ah J id)) (AR J (fun _=>FR (Ab J) (Ah J id)) (Ap J (Ay J J J (fun _=>AB AY (Ab J)) (BQ J J J (AZ Bh (Ah J id) (fun _=>E.J.y J)) (Ay J J J (fun _=>CS AC (Ah J id) Bd (fun hc=>FE (hc.2)) (fun hc=>(ab Eu).1)) (BQ J J J (A8 A3 (Ah J id) J (fun hc=>(ab Eu).2.1.A g)) (Ff J J J (fun _=>(BF QT BX (CM (Ah J id) (DC)) J)) (fun hc=>(ab Eu).2.2.2.bl _ _ D _ ((ab Eu).2.2.1.A g)) (fun ak af=>?_))))))));have g:=g.trans af;have aa:=aa.trans (af);replace E:=E.A af;refine Aw (fun h2=>?_) fun h2=>?_;have h2:Jv (Aa t i)=false:=by simpa using (gP _).trans h2
 refine Cy ?_;rw [eq_comm,Rr,show t.j.all Jv=false from CR.2 ⟨_,AA h1,by rw [← Em h1,h2];simp⟩];rfl;have h2:Jv (Aa t i)=true:=by simpa using (gP _).trans h2
 refine Ad ?_;refine Ci [3,1] ?_;refine Ai (fun a ha=>?_);refine ⟨i+1,ha,⟨⟨h1,fun j h hj=>?_⟩,aa⟩,O⟩;by_cases e:j=i;subst e;rw [← Em h1];exact h2;exact ag.2 j h O;refine Cy ?_
 rw [eq_comm,Rr,show t.j.all Jv=true from Bu.2 fun x hx=>by
  obtain ⟨j,hj,rfl⟩:=CW hx;exact ag.2 j hj (by simp only [CB] at h1;omega)];rfl
theorem Ry(t:Nd)(p:Option Addr)(c:Nat)(D:Nat→Prop)(w:Ae)(hk:Bv w D t.j (.slice p t.j.length c))(ih:La t)(ag:t.j.length≤1000000):Bz An 99 #[Cd t (.slice p t.j.length c)] w fun r w'=>r = .bool (D2 t)∧G w w':=by
 rw [← KX];have g:=G.refl w;obtain ⟨p0,c0,aa⟩:=MI hk ih 0;obtain ⟨p1,c1,ae⟩:=MI hk ih 1;have hr:∀ k∈t.j,Ni k:=fun k hk=>ih k (MW hk);refine JB (m:=149) Tryz.func99 J J [(0,True,_)] Bp ?_;refine Am (Au (CT fun _ _ _ _ g E=>?_));refine Bj J (Ai (Al (Am (Au (AE AY J (AM Bh J (E.J.y J) (EI AC J (Bj J (Ai (Al (Am (Au (AE E2 J (AM DW J (E.J.y J) (MD J J (Bj J (Ai (Al (?_)))))))))))))))))));refine Am (Am (Au (AE FP J (AM Cb J (E.J.y J) (Ai (Al (DF (Am (Au (Fy J J (Bj J (Ai (Al (Cv J (fun h1=>?_) (fun h1=>?_)))))))))))))));(try simp only [BH] at h1);refine Am (Au (Ct A3 J J E.J.row (F0 J (BF Abb BX (Cn J CI) J) (YL t _ _ D _ (hk.A g) ih) (fun bh aw=>?_))));have g:=g.trans aw;replace E:=E.A aw;refine Bj J (Ai (Al (Dl (Fp J J ?_))));refine ⟨Ig ?_,g⟩;unfold GP;simp only [Cs,h1,AL,AQ] <;> rfl
 refine Am (Au (Fy J J (Bj J (Ai (Al (Cv J (fun h2=>?_) (fun h2=>?_)))))));(try simp only [BH] at h2);refine Am (Au (Ct A3 J J E.J.row (F0 J (BF QT BX (Cn J CI) J) (dP t _ _ D _ (hk.A g) ih ag) (fun a8 ar=>?_))));have g:=g.trans ar;replace E:=E.A ar;refine Bj J (Ai (Al (Dl (Fp J J ?_))));refine ⟨Ig ?_,g⟩;unfold GP;simp only [Cs,h1,h2,AL,AQ] <;> rfl
 refine Am (Au (Fy J J (Bj J (Ai (Al (Cv J (fun h3=>?_) (fun h3=>?_)))))));(try simp only [BH] at h3);refine Am (Au (Ct A3 J J E.J.row (F0 J (BF Aap BX (Cn J CI) J) (cI t _ _ D _ (hk.A g) ih) (fun ba an=>?_))));have g:=g.trans an;replace E:=E.A an;refine Bj J (Ai (Al (Dl (Fp J J ?_))));refine ⟨Ig ?_,g⟩;unfold GP;simp only [Cs,h1,h2,h3,AL,AQ] <;> rfl
 refine Am (Au (Fy J J (Bj J (Ai (Al (Cv J (fun h4=>?_) (fun h4=>?_)))))));(try simp only [BH] at h4);refine Am (Au (Ct A3 J J E.J.row (F0 J (BF Agh BX (Cn J CI) J) (mO t _ _ D _ (hk.A g) ih ag) (fun a5 ax=>?_))));have g:=g.trans ax;replace E:=E.A ax;refine Bj J (Ai (Al (Dl (Fp J J ?_))));refine ⟨Ig ?_,g⟩;rw [Zf (by simpa using h4)];unfold GP;simp only [Cs,h1,h2,h3,h4,AL,AQ] <;> rfl
 refine Am (Au (Fy J J (Bj J (Ai (Al (Cv J (fun h5=>?_) (fun h5=>?_)))))));(try simp only [BH] at h5);refine Am (Au (AE E2 J (AM DW J (E.J.y J) (F0 J (BF TJ BX (Cn J CI) J) (NK _ _) (fun a9 ao=>?_)))));have g:=g.trans ao;replace E:=E.A ao;refine Ap J (Ay J J J (Bm J) (Ay J J J (fun _=>Gk (Ah J id) Bd) (AR J (fun _=>Et (Ab J) (Ah J id)) (Ap J (Ay J J J (fun _=>AB AY (Ab J)) (BQ J J J (AZ Bh (Ah J id) (fun _=>E.J.y J)) (Ay J J J (fun _=>CS AC (Ah J id) Bd (fun hc=>FE (hc.2)) (fun hc=>(aa Eu).1)) (BQ J J J (A8 A3 (Ah J id) J (fun hc=>(aa Eu).2.1.A g)) (Ff J J J (fun _=>(BF NB BX (CM (Ah J id) (DC)) J)) (fun hc=>(aa Eu).2.2.2.ex _ _ D _ ((aa Eu).2.2.1.A g)) (fun bg ap=>?_))))))))));have g:=g.trans ap;replace E:=E.A ap;refine AR J (fun _=>Et (Ab J) (Ah J id)) (Bj J (Ai (Al (Dl (Fp J J ?_)))));refine ⟨Ig ?_,g⟩;unfold GP;simp only [Cs,h1,h2,h3,h4,h5,AL,AQ] <;> rfl
 refine Am (Am (Au (Fy J J (Bj J (Ai (Al (?_)))))));refine' R3 [(1,_,_),(2,_,_),(3,_,_),(4,_,_),(12,_,_)] Bp J (fun bc=>?y6) (Al ?n6)
 case y6 =>
  refine Au (Fy J J (Bj J (EV [(45,_,_),(1,_,_),(2,_,_),(3,_,_),(4,_,_),(12,_,_)] Bp (?_))));exact Ai A0
 case n6 =>
  refine Cv J (fun h7=>?_) (fun h7=>?_);(try simp only [BH] at h7);refine Am (Au (Ap J (Ap J (Ay J J J (Bm J) (Ay J J J (fun _=>Gk (Ah J id) Bd) (AR J (fun _=>Et (Ab J) (Ah J id)) (Ap J (Ay J J J (fun _=>AB AY (Ab J)) (BQ J J J (AZ Bh (Ah J id) (fun _=>E.J.y J)) (Ff J J J (fun _=>(BF XW BX (CM (Ah J id) (DC)) J)) (fun hc=>Rf _ _ _ D _ (hk.A g) hr ag) (fun bb am=>?_)))))))))));have g:=g.trans am;replace E:=E.A am;refine AR J (fun _=>Et (Ab J) (Ah J id)) (Bj J (Ai (Al (Dl (Fp J J ?_)))));refine ⟨Ig ?_,g⟩;unfold GP;simp only [Cs,h1,h2,h3,h4,h5,h7,AL,AQ] <;> rfl
  refine Am (Au (Fy J J (Bj J (Ai (Al (Cv J (fun h8=>?_) (fun h8=>?_)))))));(try simp only [BH] at h8);refine Am (Au (Ap J (Ap J (Ay J J J (Bm J) (Ay J J J (fun _=>Gk (Ah J id) Bd) (AR J (fun _=>Et (Ab J) (Ah J id)) (Ap J (Ay J J J (fun _=>AB AY (Ab J)) (BQ J J J (AZ Bh (Ah J id) (fun _=>E.J.y J)) (Ay J J J (fun _=>CS AC (Ah J id) Bd (fun hc=>FE (hc.2)) (fun hc=>(aa Eu).1)) (BQ J J J (A8 A3 (Ah J id) J (fun hc=>(aa Eu).2.1.A g)) (Ff J J J (fun _=>(BF XZ BX (CM (Ah J id) (CM Bd (DC))) J)) (fun hc=>Wed _ _ _ _ D _ ((aa Eu).2.2.1.A g) (aa Eu).2.2.2) (fun bf aq=>?_)))))))))))));have g:=g.trans aq;replace E:=E.A aq
  refine Ay J J J (fun _=>J1 (Ah J id)) (Ay J J J (fun _=>AB AY (Ab J)) (BQ J J J (AZ Bh (Ah J id) (fun _=>E.J.y J)) (Ay J J J (fun _=>CS AC (Ah J id) Bd (fun hc=>FE (hc.1.2)) (fun hc=>(aa (I1 hc.1.2)).1)) (BQ J J J (A8 A3 (Ah J id) J (fun hc=>(aa (I1 hc.1.2)).2.1.A g)) (Ff J J J (fun _=>(BF XZ BX (CM (Ah J id) (CM Bd (DC))) J)) (fun hc=>Wed _ _ _ _ D _ ((aa (I1 hc.1.2)).2.2.1.A g) (aa (I1 hc.1.2)).2.2.2) (fun a7 au=>?_))))));have g:=g.trans au;replace E:=E.A au;refine Ay J J J (fun _=>FR (Ah J id) (Ah J id)) (AR J (fun _=>Et (Ab J) (Ah J id)) (Bj J (Ai (Al (Dl (Fp J J ?_))))));refine ⟨Ig ?_,g⟩;unfold GP;simp only [Cs,h1,h2,h3,h4,h5,h7,h8,AL,AQ] <;> rfl
  refine Am (Am (Au (Fy J J (Bj J (Ai (Al (?_)))))));refine' R3 [(1,_,_),(2,_,_),(3,_,_),(4,_,_),(12,_,_)] Bp J (fun be=>?y9) (Al ?n9)
  case y9 =>
   refine Au (Fy J J (Bj J (EV [(79,_,_),(1,_,_),(2,_,_),(3,_,_),(4,_,_),(12,_,_)] Bp (?_))));exact Ai A0
  case n9 =>
   refine Cv J (fun ab=>?_) (fun ab=>?_);(try simp only [BH] at ab);refine Am (Au (Ap J (Ap J (Ay J J J (Bm J) (Ay J J J (fun _=>Gk (Ah J id) Bd) (AR J (fun _=>Et (Ab J) (Ah J id)) (Ap J (Ay J J J (fun _=>AB AY (Ab J)) (BQ J J J (AZ Bh (Ah J id) (fun _=>E.J.y J)) (Ay J J J (fun _=>CS AC (Ah J id) Bd (fun hc=>FE (hc.2)) (fun hc=>(aa Eu).1)) (BQ J J J (A8 A3 (Ah J id) J (fun hc=>(aa Eu).2.1.A g)) (Ff J J J (fun _=>(BF XZ BX (CM (Ah J id) (CM Bd (DC))) J)) (fun hc=>Wed _ _ _ _ D _ ((aa Eu).2.2.1.A g) (aa Eu).2.2.2) (fun a6 av=>?_)))))))))))));have g:=g.trans av;replace E:=E.A av;refine AR J (fun _=>Et (Ab J) (Ah J id)) (Bj J (Ai (Al (Dl (Fp J J ?_)))));refine ⟨Ig ?_,g⟩;unfold GP;simp only [Cs,h1,h2,h3,h4,h5,h7,h8,ab,AL,AQ] <;> rfl
   refine Am (Am (Au (Fy J J (Bj J (Ai (Al (?_)))))));refine' R3 [(1,_,_),(2,_,_),(3,_,_),(4,_,_),(12,_,_)] Bp J (fun a1=>?y11) (Al ?n11)
   case y11 =>
    refine Au (Fy J J (Bj J (EV [(94,_,_),(1,_,_),(2,_,_),(3,_,_),(4,_,_),(12,_,_)] Bp (?_))));exact Ai A0
   case n11 =>
    refine Cv J (fun ac=>?_) (fun ac=>?_);(try simp only [BH] at ac);refine Am (Au (Ap J (Ap J (Ay J J J (Bm J) (Ay J J J (fun _=>Gk (Ah J id) Bd) (AR J (fun _=>Et (Ab J) (Ah J id)) (Ap J (Ay J J J (fun _=>AB AY (Ab J)) (BQ J J J (AZ Bh (Ah J id) (fun _=>E.J.y J)) (Ay J J J (fun _=>CS AC (Ah J id) Bd (fun hc=>FE (hc.2)) (fun hc=>(aa Eu).1)) (BQ J J J (A8 A3 (Ah J id) J (fun hc=>(aa Eu).2.1.A g)) (Ff J J J (fun _=>(BF NB BX (CM (Ah J id) (DC)) J)) (fun hc=>(aa Eu).2.2.2.ex _ _ D _ ((aa Eu).2.2.1.A g)) (fun az ak=>?_)))))))))))));have g:=g.trans ak;replace E:=E.A ak;refine AR J (fun _=>Et (Ab J) (Ah J id)) (Bj J (Ai (Al (Dl (Fp J J ?_)))));refine ⟨Ig ?_,g⟩;unfold GP;simp only [Cs,h1,h2,h3,h4,h5,h7,h8,ab,ac,AL,AQ] <;> rfl
    refine Am (Au (Fy J J (Bj J (Ai (Al (Cv J (fun ad=>?_) (fun ad=>?_)))))));(try simp only [BH] at ad);refine Am (Au (Ap J (Ap J (Ay J J J (Bm J) (Ay J J J (fun _=>VB (Ah J id) Bd) (AR J (fun _=>Et (Ab J) (Ah J id)) (Ap J (Ay J J J (fun _=>AB AY (Ab J)) (BQ J J J (AZ Bh (Ah J id) (fun _=>E.J.y J)) (Ff J J J (fun _=>(BF XW BX (CM (Ah J id) (DC)) J)) (fun hc=>Rf _ _ _ D _ (hk.A g) hr ag) (fun a4 al=>?_)))))))))));have g:=g.trans al;replace E:=E.A al;refine AR J (fun _=>Et (Ab J) (Ah J id)) (Bj J (Ai (Al (Dl (Fp J J ?_)))));refine ⟨Ig ?_,g⟩;unfold GP;simp only [Cs,h1,h2,h3,h4,h5,h7,h8,ab,ac,ad,AL,AQ] <;> rfl
    refine Am (Au (Fy J J (Bj J (Ai (Al (Cv J (fun af=>?_) (fun af=>?_)))))));(try simp only [BH] at af);refine Am (Au (Ap J (Ap J (Ay J J J (Bm J) (Ay J J J (fun _=>Gk (Ah J id) Bd) (AR J (fun _=>Et (Ab J) (Ah J id)) (Ap J (Ay J J J (fun _=>AB AY (Ab J)) (BQ J J J (AZ Bh (Ah J id) (fun _=>E.J.y J)) (Ay J J J (fun _=>CS AC (Ah J id) Bd (fun hc=>FE (hc.2)) (fun hc=>(aa Eu).1)) (BQ J J J (A8 A3 (Ah J id) J (fun hc=>(aa Eu).2.1.A g)) (Ff J J J (fun _=>(BF WQ BX (CM (Ah J id) (DC)) J)) (fun hc=>Qt _ _ _ _) (fun a2 aj=>?_)))))))))))));have g:=g.trans aj;replace E:=E.A aj;refine Ay J J J (fun _=>J1 (Ah J id)) (Ay J J J (fun _=>AB AY (Ab J)) (BQ J J J (AZ Bh (Ah J id) (fun _=>E.J.y J)) (Ay J J J (fun _=>CS AC (Ah J id) Bd (fun hc=>FE (hc.1.2)) (fun hc=>(aa (I1 hc.1.2)).1)) (BQ J J J (A8 A3 (Ah J id) J (fun hc=>(aa (I1 hc.1.2)).2.1.A g)) (Ff J J J (fun _=>(BF NB BX (CM (Ah J id) (DC)) J)) (fun hc=>(aa (I1 hc.1.2)).2.2.2.ex _ _ D _ ((aa (I1 hc.1.2)).2.2.1.A g)) (fun a3 ah=>?_))))));have g:=g.trans ah
    replace E:=E.A ah;refine Ay J J J (fun _=>FR (Ah J id) (Ah J id)) (AR J (fun _=>Et (Ab J) (Ah J id)) (Ap J (Ay J J J (fun _=>AB AY (Ab J)) (BQ J J J (AZ Bh (Ah J id) (fun _=>E.J.y J)) (Ay J J J (fun _=>CS AC (Ah J id) Bd (fun hc=>FE (hc.2)) (fun hc=>(ae Eu).1)) (BQ J J J (A8 A3 (Ah J id) J (fun hc=>(ae Eu).2.1.A g)) (Ff J J J (fun _=>(BF QT BX (CM (Ah J id) (DC)) J)) (fun hc=>(ae Eu).2.2.2.bl _ _ D _ ((ae Eu).2.2.1.A g)) (fun ay ai=>?_))))))));have g:=g.trans ai;replace E:=E.A ai;refine AR J (fun _=>Et (Ab J) (Ah J id)) (Bj J (Ai (Al (Dl (Fp J J ?_)))));refine ⟨Ig ?_,g⟩;unfold GP;simp only [Cs,h1,h2,h3,h4,h5,h7,h8,ab,ac,ad,af,AL,AQ] <;> rfl
    refine CJ (Al (Am (Au (Bj J (Ai (Al (Dl (Fp J J ?_))))))));refine ⟨Ig ?_,g⟩;unfold GP;simp only [Cs,h1,h2,h3,h4,h5,h7,h8,ab,ac,ad,af,AL,AQ] <;> rfl
theorem P3{t:Nd}(h:t.k=13∨t.k=11)(hp:D2 t=true):t.j.length=1:=Vo h (Dr.1 hp).2
theorem Wg{t:Nd}(h:t.k=12)(hp:D2 t=true):t.j.length=2:=QK (.inl h) (Dr.1 hp).2
theorem yO(t:Nd)(p:Option Addr)(c:Nat)(D:Nat→Prop)(w:Ae)(hk:Bv w D t.j (.slice p t.j.length c))(ih:La t)(aa:t.j.length≤1000000):Bz An 155 #[Cd t (.slice p t.j.length c)] w fun r w'=>r = .bool (L9 t)∧G w w':=by
 rw [← Tj];have g:=G.refl w;obtain ⟨p0,c0,ab⟩:=MI hk ih 0;obtain ⟨p1,c1,af⟩:=MI hk ih 1;refine Cu 50 [0] Tryz.func155 ?_;refine CT fun _ _ _ _ g E=>?_;refine Ad ?_;refine' A1 [1,2,4] (fun ag=>?y1) (Al ?n1)
 case y1 =>
  refine Ad ?_;refine Ci [5,1,2,4] ?_;exact Ai A0
 case n1 =>
  refine Aw (fun h2=>?_) fun h2=>?_;(try simp only [BH] at h2);refine Ad ?_;refine DI (Ry t _ _ D _ (hk.A g) ih aa) (DB fun w9 g9 g E=>?_);refine Ad ?_;refine GA (fun hc=>Qt _ _ _ _) (DB fun ak an g E=>?_);refine Cy ?_;unfold Nb;simp only [Cs,h2,AL,AQ] <;> rfl
  refine Aw (fun h3=>?_) fun h3=>?_;have ad:t.k=13:=by simpa using h3
  refine Ad ?_;refine DI (Ry t _ _ D _ (hk.A g) ih aa) (DB fun ai al g E=>?_);refine Ad ?_;refine Ay J J J (fun _=>CS AC (Ah J id) Bd (fun hc=>by have:=P3 (.inl ad) hc.2;omega) (fun hc=>(ab (by have:=P3 (.inl ad) hc.2;omega)).1)) ?_;refine Ad ?_;refine BQ J J J (AZ Cb (Ah J id) (fun hc=>((ab (by have:=P3 (.inl ad) hc.2;omega)).2.1.A g) 0 _ J)) ?_;refine Cy ?_;unfold Nb;simp only [Cs,h2,h3,AL,AQ] <;> rfl
  refine Aw (fun h4=>?_) fun h4=>?_;have ae:t.k=12:=by simpa using h4
  refine Ad ?_;refine DI (Ry t _ _ D _ (hk.A g) ih aa) (DB fun ao am g E=>?_);refine Ad ?_;refine Ay J J J (fun _=>CS AC (Ah J id) Bd (fun hc=>by have:=Wg ae hc.2;omega) (fun hc=>(af (by have:=Wg ae hc.2;omega)).1)) ?_;refine Ad ?_;refine BQ J J J (AZ Cb (Ah J id) (fun hc=>((af (by have:=Wg ae hc.2;omega)).2.1.A g) 0 _ J)) ?_;refine Cy ?_;unfold Nb;simp only [Cs,h2,h3,h4,AL,AQ] <;> rfl
  refine Aw (fun h5=>?_) fun h5=>?_;have ac:t.k=11:=by simpa using h5
  refine Ad ?_;refine DI (Ry t _ _ D _ (hk.A g) ih aa) (DB fun ah aj g E=>?_);refine Ad ?_;refine Ay J J J (fun _=>CS AC (Ah J id) Bd (fun hc=>by have:=P3 (.inr ac) hc.2;omega) (fun hc=>(ab (by have:=P3 (.inr ac) hc.2;omega)).1)) ?_;refine Ad ?_;refine BQ J J J (AZ Cb (Ah J id) (fun hc=>((ab (by have:=P3 (.inr ac) hc.2;omega)).2.1.A g) 0 _ J)) ?_;refine Cy ?_;unfold Nb;simp only [Cs,h2,h3,h4,h5,AL,AQ] <;> rfl
  refine Cy ?_;unfold Nb;simp only [Cs,h2,h3,h4,h5,AL,AQ] <;> rfl
theorem Afa:∀ n t,count t≤n→n≤1000000→Ni t:=by
 intro n
 induction n with
 | zero=>intro t h;have:=JY t;omega
 | succ n ihn =>
  intro t h hn;have ih:La t:=fun k hk=>ihn k O O;have aa:t.j.length≤1000000:=by have:=ED t;omega
  exact ⟨fun p c D w hk=>Aev t p c D w hk ih aa,fun p c D w hk=>dP t p c D w hk ih aa,fun p c D w hk=>Ry t p c D w hk ih aa,fun p c D w hk=>cI t p c D w hk ih,fun p c D w hk=>yO t p c D w hk ih aa⟩
theorem lY(t:Nd)(h:count t≤1000000):Ni t:=Afa _ t h (Hv _)
section
variable {P:AJ} {n:Nat} {σ:List Ce} {c:Prop} {wb:Ae} {ty:AD}
theorem Ys{x y:Bl}{k k':IntKind}{a b:Int}{ts:Array AD}(h:BI n σ c x (.int k a))(h':BI n σ c y (.int k' b)):Db P n σ c wb (.call { callee:=.builtin .max,args:=#[x,y],argTypes:=ts }) ty (.int k (if b>a then b else a)):=.mk fun d pos after gd a ha hc w1 _=>by
 simp [execOp,resolve,invoke,builtin,h a ha hc,h' a ha hc,Builtin.max_,Builtin.max2]
end
theorem xN(a b:Nat):(if (b:Int)>a then (b:Int) else a)=((max a b:Nat):Int):=by split <;> omega
def Mk(t:Nd):Bool:=Ac (t.k=3)&&Cr t
theorem dA(t:Nd):(!Mk t)=(((!Ac (t.k=3) || !FK t.o) || !BV t 1) || !He (Aa t 0)):=by
 have e:Mk t=(((Ac (t.k=3)&&FK t.o)&&BV t 1)&&He (Aa t 0)):=by
  rw [Mk];by_cases h:t.k=3;rw [Je,I6,HJ,Ey,h,Ua];exact congrArg (true && ·) (Lk (X:=FK t.o) (q:=IE)).symm |>.trans (by rfl)
  rw [Aq h];rfl
 rw [e];cases Ac (t.k=3) <;> cases FK t.o <;> cases BV t 1 <;> cases He (Aa t 0) <;> rfl
def OO(t:Nd):Bool:=(CV [2,6,4] t.k&&Cr t) && !Lj t
def Pf(t:Nd):Bool :=
 bif Ac (t.k=2) then FK t.o&&t.j.all Mk
 else bif Ac (t.k=6) then Mx t&&GU (Aa t 1)
 else bif Ac (t.k=4) then
  bif !FK t.o || !BV t 3 then false else (((Ac ((Aa t 0).k=5)&&DH (Aa t 0))&&(Aa t 0).j.all Mk)&&(GU (Aa t 1) || He (Aa t 1)))&&Eh (Aa t 2)
 else false
theorem bO{t:Nd}:(HU t (CV [3])&&t.j.all Cr)=t.j.all Mk:=by
 rw [Rm];congr 1;funext k;rw [Kz];rfl
theorem Aby(t:Nd):((Ac (t.k=5)&&DH t)&&t.j.all Mk)=(CV [5] t.k&&Cr t):=by
 rw [Kz];by_cases h:t.k=5;rw [Je t,I6,HJ,Ey,h,Ao];exact congrArg (true && ·) (by rw [← bO,← Ao];rfl);rw [Aq h];rfl
theorem Abv(t:Nd):Pf t=OO t:=by
 rw [Pf,OO];by_cases h:t.k=2;rw [Je t,I6,HJ,Ey,Lj,h];refine Eq.trans (b:=(FK t.o&&HU t (CV [3]))&&t.j.all Cr) ?_ (Eq.trans (Ha _).symm J);rw [Ao (FK t.o) (HU t _),bO];rfl;by_cases h1:t.k=6;rw [Mx,Lj,h1];refine Eq.trans (b:=Cr t&&GU (Aa t 1)) J (Eq.trans (b:=Cr t && !(!BV t 2 || !Ac ((Aa t 1).k=9))) ?_ J);rw [Pq]
 cases hp:Cr t with
 | false=>rfl
 | true =>
  have hl:=QK (.inr h1) hp
  have hk:Cr (Aa t 1)=true:=by
   rw [Je,Cj,Bu] at hp;rw [Em O];exact hp.2 _ (AA _)
  rw [hk,show BV t 2=true by rw [BV,BM];omega];cases Ac ((Aa t 1).k=9) <;> rfl
 by_cases h2:t.k=4;rw [Aby,Je t,I6,HJ,Ey,Lj,h2];refine Eq.trans (b:=bif !FK t.o || !BV t 3 then false else ((CV [5] (Aa t 0).k&&Cr (Aa t 0))&&(GU (Aa t 1) || He (Aa t 1)))&&Eh (Aa t 2)) J (Eq.trans (b:=(FK t.o&&Fb t [CV [5],fun k=>IE k || CV [9] k,CV [10]])&&t.j.all Cr) ?_ (Eq.trans (Ha _).symm J));rw [VP,Ao (FK t.o) (Fb t _),Wp,Pq,Ua,Tu,Eh,Kz 9,Kz 10];ac_rfl;simp only [CV,List.mem_cons,List.not_mem_nil,h,h1,h2,decide_false,or_false,AQ,EY]
theorem jU(l:List Nd)(p:Option Addr)(c:Nat)(D:Nat→Prop)(w:Ae)(hk:Bv w D l (.slice p l.length c))(ak:l.length≤1000000):Bz An 78 #[.slice p l.length c] w fun r w'=>r = .bool (l.all Mk)∧G w w':=by
 have g:=G.refl w;obtain ⟨p',c',hpe,_,ag⟩:=hk;injection hpe with hpe _ ah;subst hpe ah;refine JB (m:=45) Tryz.func78 J J [(0,True,_)] Bp ?_;refine Am (Au (Bj J (Ai (Al (Am (Am (Au (Bj J (Ai (Al (DF (Hi (fun (i:Nat) u1=>(i≤l.length∧∀ j,(h:j<l.length)→j<i→Mk l[j]=true)∧G w u1) [(0,True,_)] (fun (i:Nat)=>[(3,True,.int .i64 i)]) (fun (i:Nat)=>l.length-i) (0) ⟨⟨A2 _,fun j _ hj=>absurd hj (CC j)⟩,G.refl _⟩ Bp ?_))))))))))));rintro i u1 ⟨ab,aa⟩;have g:=g.trans aa;refine Am (Am (Au (Ap J (Ap J (EI AC J (GG J J (Ai (Al (Cv J (fun h1=>?_) (fun h1=>?_))))))))));have h1:i<l.length:=by simp only [BM] at h1;omega
 obtain ⟨b,o,rfl,hD,xs,hR,hX⟩:=ag O;obtain ⟨p',c',hcell,ac⟩:=JD hR hX h1;obtain ⟨p3,c3,af⟩:=Un ac 0;refine CJ (Al (Am (DF (Am (Au (Ap J (Ap J (Hn AC J J O (AE FP J (AM Cb J ((hcell.A g) 0 _ J) (MH J J (Ap J (Ay J J J (Bm J) (Ay J J J (Bm J) (Ay J J J (fun _=>KQ AC (Ah J id) (Ah J id) (fun _=>O)) (Ay J J J (fun _=>AB E2 (Ah J id)) (?_)))))))))))))))));refine BQ J J J (AZ DW (Ah J id) (fun _=>(hcell.A g) 1 _ J)) (Ff J J J (fun _=>(BF TJ BX (CM (Ah J id) (DC)) J)) (fun hc=>NK _ _) (fun ai ae=>?_));have g:=g.trans ae;have aa:=aa.trans (ae);refine Ay J J J (fun _=>PD (Ah J id)) (AR J (fun _=>FR (Ab J) (Ah J id)) (Ap J (Ay J J J (Bm J) (Ay J J J (Bm J) (Ay J J J (fun _=>KQ AC (Ah J id) (Ah J id) (fun _=>O)) (Ay J J J (fun _=>AB AY (Ah J id)) (BQ J J J (AZ Bh (Ah J id) (fun _=>(hcell.A g) 4 _ J)) (Ay J J J (fun _=>Lp AC (Ah J id)) (Ay J J J (fun _=>IA (Ah J id) Bd) (AR J (fun _=>FR (Ab J) (Ah J id)) (Ap J (Ay J J J (Bm J) (Ay J J J (Bm J) (Ay J J J (fun _=>KQ AC (Ah J id) (Ah J id) (fun _=>O)) (Ay J J J (fun _=>AB AY (Ah J id)) (?_))))))))))))))))
 refine BQ J J J (AZ Bh (Ah J id) (fun _=>(hcell.A g) 4 _ J)) (Ay J J J (fun _=>CS AC (Ah J id) Bd (fun hc=>FE (hc.2)) (fun hc=>(af Eu).1)) (BQ J J J (A8 A3 (Ah J id) J (fun hc=>(af Eu).2.1.A g)) (Ff J J J (fun _=>(BF cB BX (CM (Ah J id) (DC)) J)) (fun hc=>TN _ _ _ _) (fun aj ad=>?_))));have g:=g.trans ad;have aa:=aa.trans (ad);refine Aw (fun h2=>?_) fun h2=>?_;have h2:Mk l[i]=false:=by simpa using (dA _).trans h2
 refine Cy ?_;rw [eq_comm,CR];exact ⟨_,AA h1,by rw [h2];simp⟩;have h2:Mk l[i]=true:=by simpa using (dA _).trans h2
 refine Ad ?_;refine Ci [3,0] ?_;refine Ai (fun a ha=>?_);refine ⟨i+1,ha,⟨⟨h1,fun j h hj=>?_⟩,aa⟩,O⟩;by_cases e:j=i;subst e;exact h2;exact ab.2 j h O;refine Cy ?_;rw [eq_comm,Bu];intro x hx;obtain ⟨j,hj,rfl⟩:=CW hx;exact ab.2 j hj (by simp only [CB] at h1;omega)
theorem nV(t:Nd)(p:Option Addr)(c:Nat)(D:Nat→Prop)(w:Ae)(hk:Bv w D t.j (.slice p t.j.length c))(aq:count t≤1000000):Bz An 49 #[Cd t (.slice p t.j.length c)] w fun r w'=>r = .bool (OO t)∧G w w':=by
 rw [← Abv];have g:=G.refl w;have a5:=ED t;have ih:La t:=fun k hk=>lY k O;obtain ⟨p1,c1,ae⟩:=MI hk ih 1;refine Cu 77 [0] Tryz.func49 ?_;refine CT fun _ _ _ _ g E=>?_;refine Aw (fun h1=>?_) fun h1=>?_;(try simp only [BH] at h1);refine Ad ?_;refine DI (NK _ _) (DB fun au ay g E=>?_);refine Ad ?_;refine GA (fun hc=>jU _ _ _ D _ (hk.A g) O) (DB fun aw a8 g E=>?_);refine Cy ?_;unfold Pf;simp only [h1,AL,AQ] <;> rfl
 refine Aw (fun h2=>?_) fun h2=>?_;have ad:t.k=6:=by simpa using h2
 refine Ad ?_;refine DI (YL t _ _ D _ (hk.A g) ih) (DB fun a3 a6 g E=>?_);refine Ad ?_;refine Ay J J J (fun _=>CS AC (Ah J id) Bd (fun hc=>by have:=QK (.inr ad) (Dr.1 hc.2).2;omega) (fun hc=>(ae (by have:=QK (.inr ad) (Dr.1 hc.2).2;omega)).1)) (BQ J J J (A8 A3 (Ah J id) J (fun hc=>(ae (by have:=QK (.inr ad) (Dr.1 hc.2).2;omega)).2.1.A g)) (GA (fun hc=>Qt _ _ _ _) (fun a1 ai=>?_)));have g:=g.trans ai;replace E:=E.A ai;refine Cy ?_;unfold Pf;simp only [h1,h2,AL,AQ] <;> rfl
 refine Aw (fun h3=>?_) fun h3=>?_;(try simp only [BH] at h3);refine Am (Am (Au (AE E2 J (AM DW J (E.J.y J) (F0 J (BF TJ BX (Cn J CI) J) (NK _ _) (fun ar am=>?_))))));have g:=g.trans am;replace E:=E.A am;refine Sd J (Ap J (Ay J J J (fun _=>AB AY (Ab J)) (BQ J J J (AZ Bh (Ah J id) (fun _=>E.J.y J)) (Ay J J J (fun _=>Lp AC (Ah J id)) (Ay J J J (fun _=>IA (Ah J id) Bd) (AR J (fun _=>FR (Ab J) (Ah J id)) (Ai (Al (Cv J (fun h4=>?_) (fun h4=>?_))))))))));have h4:(!FK t.o || !BV t 3)=true:=h4;refine Am (Au (Bj J (Ai (Al (Dl (Fp J J ?_))))));refine ⟨Ig ?_,g⟩;unfold Pf;simp only [h1,h2,h3,h4,AL,AQ] <;> rfl
 have h4:(!FK t.o || !BV t 3)=false:=h4;have ax:t.j.length=3:=by simp only [BV,F3,Bool.not_eq_false',BM] at h4;omega
 obtain ⟨hpe,p0,c0,ac,af⟩:=Ba hk (i:=0) O;obtain ⟨_,p2,c2,ab,ag⟩:=Ba hk (i:=2) O;obtain ⟨_,aa,ap,a2⟩:=ae O;have ao:=ih.a6 (i:=2) O;have ak:=gO aq 0;refine CJ (Al (Am (Au (AE AY J (AM Bh J (E.J.y J) (Dk AC J J O hpe (Ct A3 J J (ac.A g) (A5 fun _ _ _ _ g E=>?_))))))));refine AS fun _ _ _ g E=>?_;refine Ai (Al (Am (Au (AE FP J (AM Cb J (E.J.y J) (Fy J J (Ap J (Ay J J J (fun _=>AB E2 (Ab J)) (BQ J J J (AZ DW (Ah J id) (fun _=>E.J.y J)) (Ay J J J (fun _=>OB (Ah J id) Bd) (AR J (fun _=>Et (Ab J) (Ah J id)) (Ap J (Ay J J J (fun _=>AB AY (Ab J)) (BQ J J J (AZ Bh (Ah J id) (fun _=>E.J.y J)) (Ff J J J (fun _=>(BF oH BX (CM (Ah J id) (DC)) J)) (fun hc=>jU _ _ _ D _ (af.A g) ak) (fun a7 an=>?_))))))))))))))));have g:=g.trans an;replace E:=E.A an;refine AR J (fun _=>Et (Ab J) (Ah J id)) (Ap J (Ay J J J (fun _=>AB AY (Ab J)) (BQ J J J (AZ Bh (Ah J id) (fun _=>E.U.y J)) (Ay J J J (fun _=>CS AC (Ah J id) Bd (fun _=>O) (fun _=>hpe)) (BQ J J J (A8 A3 (Ah J id) J (fun _=>aa.A g)) (Ff J J J (fun _=>(BF WQ BX (CM (Ah J id) (DC)) J)) (fun hc=>Qt _ _ _ _) (fun az al=>?_)))))));have g:=g.trans al;replace E:=E.A al;refine Ay J J J (fun _=>J1 (Ah J id)) (Ay J J J (fun _=>AB AY (Ab J)) (BQ J J J (AZ Bh (Ah J id) (fun _=>E.U.y J)) (Ay J J J (fun _=>CS AC (Ah J id) Bd (fun _=>O) (fun _=>hpe)) (BQ J J J (A8 A3 (Ah J id) J (fun _=>aa.A g)) (Ff J J J (fun _=>(BF cB BX (CM (Ah J id) (DC)) J)) (fun hc=>TN _ _ _ _) (fun av ah=>?_))))));have g:=g.trans ah;replace E:=E.A ah
 refine Ay J J J (fun _=>FR (Ah J id) (Ah J id)) (AR J (fun _=>Et (Ab J) (Ah J id)) (Ap J (Ay J J J (fun _=>AB AY (Ab J)) (BQ J J J (AZ Bh (Ah J id) (fun _=>E.U.y J)) (Ay J J J (fun _=>CS AC (Ah J id) Bd (fun _=>O) (fun _=>hpe)) (BQ J J J (A8 A3 (Ah J id) J (fun _=>ab.A g)) (Ff J J J (fun _=>(BF QT BX (CM (Ah J id) (DC)) J)) (fun hc=>ao.bl _ _ D _ (ag.A g)) (fun a4 aj=>?_))))))));have g:=g.trans aj;replace E:=E.A aj;refine Cy ?_;unfold Pf;simp only [h1,h2,h3,h4,AL,AQ] <;> rfl
 refine Cy ?_;unfold Pf;simp only [h1,h2,h3,AL,AQ] <;> rfl
theorem Abf:∀ (t:Nd) (v:Aj) (D:Nat→Prop) (w:Ae),Bv w D t.j v→count t≤1000000→Bz An 44 #[Cd t v] w fun r w'=>r = .int .i64 (H6 t:Nat)∧G w w':=by
 refine Nd.ap fun t ih v D w hk al=>?_;obtain ⟨p,c,rfl,ah,ae⟩:=hk;have g:=G.refl w;have ag:=ED t;have aj:=zP t;have af:=Vt t
 have ac:∀ i,Mn ((t.j.take i).map H6)≤Mn (t.j.map H6):=fun i=>by
  rw [S9];intro x hx;rw [List.map_take] at hx;exact (S9 _ _).1 (Hv _) x (Lo hx)
 refine Cu 22 [0] Tryz.func44 ?_;refine CT fun _ w1 _ _ g E=>?_;refine Bj J (Ai (Al (Am (Au (Bj J (Ai (Al (Am (Am (Au (Bj J (Ai (Al (DF (Hi (fun (i:Nat) u1=>(i≤t.j.length)∧G w1 u1) [(1,True,_),(2,True,_)] (fun (i:Nat)=>[(3,True,.int .i64 ((Mn ((t.j.take i).map H6):Nat):Int)),(4,True,.int .i64 i)]) (fun (i:Nat)=>t.j.length-i) (0) ⟨by simp,G.refl _⟩ Bp ?_)))))))))))))));rintro i u1 ⟨ai,aa⟩;have g:=g.trans aa;replace E:=E.A aa;refine Am (Am (Au (Ap J (AE AY J (AM Bh J (E.J.y J) (EI AC J (GG J J (Ai (Al (Cv J (fun h1=>?_) (fun h1=>?_)))))))))));have h1:i<t.j.length:=by simp only [BM] at h1;omega
 obtain ⟨b,o,rfl,hD,xs,hR,hX⟩:=ae O;obtain ⟨p',c',hcell,ab⟩:=JD hR hX h1;have ak:=KG h1;refine CJ (Al (Am (DF (Kb [3,3,0,3,3,0,1,3,3] (Ap J (AE AY J (AM Bh J (E.J.y J) (Ap J (Hn AC J J O (Ct A3 J J (hcell.A g) (F0 J (BF uM BX (Cn J CI) J) (ih _ (AA h1) _ _ _ (ab.A g) O) (fun am ad=>?_))))))))))));have aa:=aa.trans (ad);replace E:=E.A ad;refine AR J (fun _=>Ys (Ab J) (Ab J)) (Bj J (Ai (Al (Au (Ap J (H2 J J O (Bj J (EV [(3,_,_),(4,_,_),(1,_,_),(2,_,_)] Bp (Ai (fun a ha=>?_))))))))));rw [xN,show max (Mn ((t.j.take i).map H6)) (H6 t.j[i])=Mn ((t.j.take (i+1)).map H6) by rw [cK H6 t.j i h1,Mn,Mn,List.foldl_append];rfl] at ha;exact ⟨i+1,ha,⟨h1,aa⟩,O⟩;have h1:i=t.j.length:=by simp only [CB] at h1;omega
 have hp:=ac i;refine AN ?_;refine ⟨?_,g⟩;rw [h1,List.take_length,af];rfl
theorem oM(t:Nd):(bif (!Ac (t.k=1) || !DH t) || Ac ((50:Int)<(H6 t:Nat)) then false else t.j.all OO)=Hf t:=by
 rw [Hf,Lb];by_cases h:t.k=1;rw [Je,I6,HJ,Ey,h];refine Eq.trans (b:=bif !DH t || Ac ((50:Int)<(H6 t:Nat)) then false else t.j.all OO) J (Eq.trans (b:=((DH t&&(!(t.j.any Lj)&&HU t (CV [2,6,4])))&&t.j.all Cr)&&Ac (H6 t≤50)) ?_ J)
 have AU:Ac ((50:Int)<(H6 t:Nat)) = !Ac (H6 t≤50):=by
  rw [← decide_not,decide_eq_decide];omega
 have e2:t.j.all OO=((!(t.j.any Lj)&&HU t (CV [2,6,4]))&&t.j.all Cr):=by
  rw [Ao,Rm,FI];simp only [Cj,Bu,OO,Bool.not_eq_true',List.any_eq_false];constructor;intro h;exact ⟨fun k hk=>by rw [(h k hk).2];simp,fun k hk=>(h k hk).1⟩;rintro ⟨h1,h2⟩ k hk;exact ⟨h2 k hk,by simpa using h1 k hk⟩
 rw [AU,VP,e2];ac_rfl;rw [Aq h];rfl
theorem uL(t:Nd)(v:Aj)(D:Nat→Prop)(w:Ae)(hk:Bv w D t.j v)(ai:count t≤1000000):Bz An 24 #[Cd t v] w fun r w'=>r = .bool (Hf t)∧G w w':=by
 rw [← oM];obtain ⟨p,c,rfl,ae,ag⟩:=hk;have af:Bv w D t.j (.slice p t.j.length c):=⟨p,c,rfl,ae,ag⟩;have g:=G.refl w;have al:=ED t;refine Cu 31 [0] Tryz.func24 ?_;refine CT fun _ _ _ _ g E=>?_;refine Ad ?_;refine GA (fun hc=>Abf t _ D _ (af.A g) ai) (DB fun ah am g E=>?_);refine Aw (fun h1=>?_) fun h1=>?_;have h1:((!Ac (t.k=1) || !DH t) || Ac ((50:Int)<(H6 t:Nat)))=true:=h1;refine Cy ?_;rw [h1];rfl;have h1:((!Ac (t.k=1) || !DH t) || Ac ((50:Int)<(H6 t:Nat)))=false:=h1;refine Ad ?_;refine Hi (fun (i:Nat) u1=>(i≤t.j.length∧∀ j,(h:j<t.j.length)→j<i→OO t.j[j]=true)∧G ah u1) [(1,True,_)] (fun (i:Nat)=>[(3,True,.int .i64 i)]) (fun (i:Nat)=>t.j.length-i) (0) ⟨⟨A2 _,fun j _ hj=>absurd hj (CC j)⟩,G.refl _⟩ Bp ?_;rintro i u1 ⟨ac,aa⟩;have g:=g.trans aa;replace E:=E.A aa;refine Aw (fun h2=>?_) fun h2=>?_;have h2:i<t.j.length:=by simp only [BM] at h2;omega
 obtain ⟨hpe,p2,c2,hcell,ad⟩:=Ba af h2;have ak:=HH h2;refine Ad ?_;refine DI (nV _ _ _ D _ (ad.A g) O) (fun aj ab=>?_);have g:=g.trans ab;have aa:=aa.trans (ab);replace E:=E.A ab;refine Aw (fun h3=>?_) fun h3=>?_;(try simp only [BH] at h3);refine Cy ?_;rw [h1,AQ,eq_comm,CR];exact ⟨_,AA h2,by rw [← Em h2];simpa using h3⟩;refine Ad ?_;refine Ci [3,1] ?_;refine Ai (fun a ha=>?_);refine ⟨i+1,ha,⟨⟨h2,fun j h hj=>?_⟩,aa⟩,O⟩;by_cases e:j=i;subst e;rw [← Em h2];simpa using h3;exact ac.2 j h O;refine Cy ?_;rw [h1,AQ,eq_comm,Bu];intro x hx;obtain ⟨j,hj,rfl⟩:=CW hx;exact ac.2 j hj (by simp only [CB] at h2;omega)
def Ie(t:Nd):Bool:=Ac (t.k=24) || Ac (t.k=25)
theorem Acz(t:Nd)(p:Option Addr)(c:Nat)(w:Ae):Bz An 45 #[Cd t (.slice p t.j.length c)] w fun v w'=>v = .bool (Ie t)∧G w w':=by
 have g:=G.refl w;refine Cu 11 [0] Tryz.func45 ?_;refine CT fun _ _ _ _ g E=>?_;refine AN ?_;exact ⟨rfl,g⟩
def Sv(a b:Nd):Bool:=Ac ((a.j.length:Int)=b.j.length)
def QB(q:Nd→Nd→Bool)(a:Nd):Nd→Bool:=Jx (fun a l b=>q a b&&(Eo a.j.length).all fun i=>(l.getD i fun _=>false) (Aa b i)) a
theorem kK{n:Nat}{f h:Nat→Bool}(e:∀ i,i<n→f i=h i):(Eo n).all f=(Eo n).all h:=by
 rw [FI,Bu,Bu];exact ⟨fun k i hi=>(e i (Du.1 hi))▸k i hi,fun k i hi=>(e i (Du.1 hi)).symm▸k i hi⟩
theorem Agy(q:Nd→Nd→Bool)(a b:Nd):QB q a b=(q a b&&(Eo a.j.length).all fun i=>QB q (Aa a i) (Aa b i)):=by
 rw [QB,Lw];refine congrArg (q a b && ·) (kK fun i hi=>?_)
 have:(a.j.map (QB q)).getD i (fun _=>false)=QB q (Aa a i):=by
  rw [Em hi];simp [Cq,Ei hi]
 exact congrFun this (Aa b i)
theorem mX{a b:Nd}:Sv a b=true↔a.j.length=b.j.length:=by rw [Sv,BM];omega
def UK(a b:Bo):Bool:=Ac (a.k=b.k)&&(Ac (a.name=b.name)&&true)
theorem pT(a b:Bo):UK a b=true↔a=b:=by
 cases a;cases b;simp [UK]
def MN(a b:Nd):Bool:=((((((Ac (a.k=b.k)&&Ac (a.o=b.o))&&Ac (a.num=b.num))&&Ac (a.z=b.z))&&UK a.ty b.ty)&&Ac (a.ref=b.ref))&&Ac (a.up=b.up))&&Sv a b
theorem X7(a b:Nd):(!MN a b)=(((((((!Ac (a.k=b.k) || !Ac (a.o=b.o)) || !Ac (a.num=b.num)) || !Ac (a.z=b.z)) || !UK a.ty b.ty) || !Ac (a.ref=b.ref)) || !Ac (a.up=b.up)) || !Sv a b):=by
 unfold MN;simp only [Bool.not_and]
def RH(a b:Nd):Bool:=QB MN a b
theorem cL(a b:Nd):RH a b=(MN a b&&(Eo a.j.length).all fun i=>RH (Aa a i) (Aa b i)):=Agy MN a b
theorem yI{a b:Nd}(h:MN a b=true):a.j.length=b.j.length:=by
 unfold MN at h;rw [Cj] at h;exact mX.1 h.2
theorem SU:∀ a,RH a a=true:=by
 refine Nd.ap fun a ih=>?_;rw [cL,Cj,Bu];refine ⟨by simp [MN,Sv,(pT a.ty a.ty).2 rfl],fun i hi=>?_⟩;rw [Em (Du.1 hi)];exact ih _ (AA _)
theorem YS:∀ (a:Nd) (va:Aj) (D:Nat→Prop) (b:Nd) (vb:Aj) (D':Nat→Prop) (w:Ae),Bv w D a.j va→Bv w D' b.j vb→count a≤1000000→Bz An 15 #[Cd a va,Cd b vb] w fun r w'=>r = .bool (RH a b)∧G w w':=by
 refine Nd.ap fun a ih va D b vb D' w ao aq av=>?_;obtain ⟨pa,ca,rfl,ah,al⟩:=ao;have ak:Bv w D a.j (.slice pa a.j.length ca):=⟨pa,ca,rfl,ah,al⟩;obtain ⟨am,cb,rfl,af,ai⟩:=aq;have an:Bv w D' b.j (.slice am b.j.length cb):=⟨am,cb,rfl,af,ai⟩;have g:=G.refl w;have aw:=ED a;rw [cL];refine Cu 81 [0,1] Tryz.func15 ?_;refine CT fun _ _ _ _ g E=>?_;refine Mt fun _ w3 _ _ g E=>?_;refine Aw (fun h1=>?_) fun h1=>?_;have h1:MN a b=false:=by simpa using (X7 a b).trans h1
 refine AN ?_;rw [h1];exact ⟨rfl,g⟩;have h1:MN a b=true:=by simpa using (X7 a b).trans h1
 have hl:=yI h1;refine Ad ?_;refine Hi (fun (i:Nat) u1=>(i≤a.j.length∧∀ j,j<i→RH (Aa a j) (Aa b j)=true)∧G w3 u1) [(2,True,_),(3,True,_)] (fun (i:Nat)=>[(5,True,.int .i64 i)]) (fun (i:Nat)=>a.j.length-i) (0) ⟨⟨A2 _,fun j hj=>absurd hj (CC j)⟩,G.refl _⟩ Bp ?_;rintro i u1 ⟨aj,aa⟩;have g:=g.trans aa;replace E:=E.A aa;refine Aw (fun h2=>?_) fun h2=>?_;have h2:i<a.j.length:=by simp only [BM] at h2;omega
 obtain ⟨ap,p1,c1,ac,ae⟩:=Ba ak h2;obtain ⟨ar,p2,c2,ab,ag⟩:=Ba an (i:=i) O;have au:=HH h2;refine CJ (Al (Am (DF (Am (Dj [3,0,3,3,0,3,0,3,3,0,1,3] ?_)))));have g:=HG g;have aa:=aa.trans (G.drew _);replace E:=E.dr;refine AE AY J (AM Bh J (E.U.y J) (Ap J (Dk AC J J O ap (Ct A3 J J (ac.A g) (AE AY J (AM Bh J (E.J.y J) (Ap J (Dk AC J J O ar (Ct A3 J J (ab.A g) (F0 J (BF Wh BX (Cn J (Cn J CI)) J) (ih _ (Em h2▸AA h2) _ D _ _ D' _ (ae.A g) (ag.A g) O) (fun ax ad=>?_)))))))))));have g:=g.trans ad;have aa:=aa.trans (ad);replace E:=E.A ad;refine Aw (fun h3=>?_) fun h3=>?_;(try simp only [BH] at h3);refine Cy ?_;rw [h1,E0,eq_comm,CR];exact ⟨i,Du.2 h2,by simpa using h3⟩;refine Ad ?_;refine Ci [5,2,3] ?_;refine Ai (fun a ha=>?_);refine ⟨i+1,ha,⟨⟨h2,fun j hj=>?_⟩,aa⟩,O⟩;by_cases e:j=i;subst e;simpa using h3;exact aj.2 j O;refine Cy ?_;rw [h1,E0,eq_comm,Bu];intro j hj;exact aj.2 j (by have:=Du.1 hj;simp only [CB] at h2;omega)
def F1(t:Nd):Int:=bif Ie t then t.num else 0
def LW(t:Nd):Nd:=Jx (fun t l=>.mk t.k t.o (F1 t) 0 l Az 0 0) t
theorem nO(t:Nd):LW t = .mk t.k t.o (F1 t) 0 (t.j.map LW) Az 0 0:=Lw _ t
def BP(t:Nd):Nd:=Jx (fun t l=>.mk t.k t.o (F1 t) t.z l Az 0 0) t
theorem Mu(t:Nd):BP t = .mk t.k t.o (F1 t) t.z (t.j.map BP) Az 0 0:=Lw _ t
theorem V0(t:Nd)(v:Aj):De (LW t) v=[.int .i64 t.k,Cg t.o,.int .i64 (F1 t),.int .i64 0,v,.int .i64 0,Cg [],.int .i64 0,.int .i64 0]:=by rw [nO];rfl
theorem U1(t:Nd)(v:Aj):De (BP t) v=[.int .i64 t.k,Cg t.o,.int .i64 (F1 t),.int .i64 t.z,v,.int .i64 0,Cg [],.int .i64 0,.int .i64 0]:=by rw [Mu];rfl
theorem PX(t:Nd):(BP t).j=t.j.map BP:=by rw [Mu];rfl
structure Dz where
  name:List UInt8
  typ:Bo
  num:Nat
  D:Nat
  w:Nat
def JU(v:Dz):List Aj:=[Cg v.name,.int .i64 v.typ.k,Cg v.typ.name,.int .i64 v.num,.int .i64 v.D,.int .i64 v.w]
structure Ak where
  F:List Dz
  w:Nat
  D:Nat
  next:List Nat
  E:Bo
  ea:Int
  ee:Int
def DV(a e:Int)(S:Ak):Ak:=bif Ac (S.ee=0) then { S with ea:=a,ee:=e } else S
def AG(b:Bool)(a e:Int)(S:Ak):Ak:=bif b then S else DV a e S
def DJ(t:Nd):Nd:=.mk t.k t.o (F1 t) t.z [] Az 0 0
def AF(t:Nd)(ks:List Nd)(y:Bo):Nd:=.mk t.k t.o (F1 t) t.z ks y 0 0
def GI(kd:Int)(s:List UInt8):List Nd→Nat→Nd×Int
 | [],_=>(Fr,-1)
 | d::l,k=>bif Ac (d.k=kd) then (bif Ac (d.o=s) then (d,(k:Int)) else GI kd s l (k+1)) else GI kd s l k
def A9(F:Nd)(kd:Int)(s:List UInt8):Nd×Int:=GI kd s F.j 0
def I5(F n:Nd)(S:Ak):Ak:=bif Ac (n.k=8) then AG (!Ac ((A9 F 2 n.o).2<0)) n.z 5 S else S
def DS(F n:Nd)(S:Ak):Ak:=AG (E4 (Bx n).1) n.z 7 (I5 F n S)
def El(S:Ak):Ak:={ S with w:=S.w+1 }
def JG(sc:Nat)(l:List Dz):List Dz:=(l.reverse.dropWhile fun v=>Ac (v.w=sc)).reverse
def IY(S:Ak):Ak:={ S with F:=JG S.w S.F,w:=S.w-1 }
def KD(S:Ak)(name:List UInt8):Bool:=S.F.any fun v=>Ac (v.w=S.w)&&Ac (v.name=name)
def Ea(S:Ak):Nat:=S.next.getD S.D 0
def GQ(name:List UInt8)(y:Bo)(a:Int)(S:Ak):Ak :=
 let S1:=AG (!KD S name) a 6 S
 { S1 with next:=S.next.set S.D (Ea S+1),F:=S.F++[⟨name,y,Ea S,S.D,S.w⟩] }
def E9(l:List Dz)(s:List UInt8):Option Dz:=l.reverse.find? fun v=>Ac (v.name=s)
def Kt(d:Nd):Bo:=bif Ac (((Aa d 0).j.length:Int)=0)&&Ac ((Aa d 1).k=9) then tFunc else Az
def Cx(F:Nd)(S:Ak)(n:Nd):Nd×Bool :=
 match E9 S.F n.o with
 | some v=>(.mk n.k n.o v.num n.z [] v.typ 1 ((S.D:Int)-v.D),true)
 | none =>
  bif Ac (0≤(A9 F 6 n.o).2) then (.mk n.k n.o (A9 F 6 n.o).2 n.z [] (Bx (Aa (A9 F 6 n.o).1 0)).1 2 0,true)
  else bif Ac (0≤(A9 F 4 n.o).2) then (.mk n.k n.o (A9 F 4 n.o).2 n.z [] (Kt (A9 F 4 n.o).1) 3 0,true)
  else (DJ n,false)
structure FQ where
  ex:Ak→Nd×Ak
  N:Ak→(Nd×Bool)×Ak
  rcv:Ak→Nd×Bool
  K:Ak→(Nd×List Bo×Bo)×Ak
  st:Ak→Nd×Ak
  H:Ak→Nd×Ak
  ifs:Ak→Nd×Ak
  M:Ak→Nd×Ak
  cas:Bool→Ak→Nd×Ak
def Ow:FQ:=⟨fun S=>(Fr,S),fun S=>((Fr,false),S),fun _=>(Fr,false),fun S=>((Fr,[],Az),S),fun S=>(Fr,S),fun S=>(Fr,S),fun S=>(Fr,S),fun S=>(Fr,S),fun _ S=>(Fr,S)⟩
def DA(x:Nd)(k a:Int)(S:Ak):Ak:=AG (Ac (x.ty.k=k)) a 7 S
section
variable (F n:Nd) (x:Nat→FQ)
def Er(S:Ak):(Nd×Bool)×Ak :=
 let a:=(x 0).ex S
 bif Ac (a.1.ty.k=4) then
  match (F8 F a.1.ty.name).1.find? fun f=>Ac (f.name=n.o) with
  | some f=>((AF n [a.1] f.ty,true),a.2)
  | none=>((AF n [a.1] Az,false),DV n.z 5 a.2)
 else ((AF n [a.1] Az,false),DV n.z 7 a.2)
def G4(S:Ak):Nd×Bool :=
 bif Ac (n.k=27) then ((Cx F S n).1,((Cx F S n).2&&Ac ((Cx F S n).1.ref=2))&&Ac (8≤(Cx F S n).1.ty.k))
 else bif Ac (n.k=28) then ((Er F n x S).1.1,((Er F n x S).1.2&&Ac ((Er F n x S).2.ee=0))&&Ac (8≤(Er F n x S).1.1.ty.k))
 else (Fr,false)
def Ed(ps:List Bo)(S:Ak):Nat→List Nd×Ak
 | 0=>([],S)
 | i+1 =>
  let a:=Ed ps S i
  let e:=(x (i+1)).ex a.2
  (a.1++[e.1],AG (!(Ac (i<ps.length) && !EE (ps.getD i Az) e.1.ty)) (Aa n (i+1)).z 7 e.2)
def Jf(S:Ak):Nd×Ak :=
 let c:=(x 0).K S
 let a:=Ed n x c.1.2.1 (AG (Ac ((n.j.length:Int)-1=c.1.2.1.length)) n.z 7 c.2) (n.j.length-1)
 (AF n (c.1.1::a.1) c.1.2.2,a.2)
def Fk(S:Ak):Ak:={ S with E:=Az,D:=S.D+1,next:=S.next.take (S.D+1)++[0] }
def Nw(S:Ak):Nd×Ak :=
 let b:=(x 0).H (Fk S)
 (AF n [b.1] tFunc,{ b.2 with D:=b.2.D-1,E:=S.E })
def KV:Bo:=bif Ac (n.o=[33]) then tBool else tInt
def Fu(S:Ak):Nd×Ak :=
 let a:=(x 0).ex S
 bif Ac (n.k=29) then
  let b:=(x 1).ex (DA a.1 5 (Aa n 0).z a.2)
  (AF n [a.1,b.1] tInt,DA b.1 1 (Aa n 1).z b.2)
 else bif Ac (n.k=31) then (AF n [a.1] (KV n),DA a.1 (KV n).k n.z a.2)
 else bif Ac (n.k=32) then
  let b:=(x 1).ex a.2
  (AF n [a.1,b.1] (Gp n.o a.1.ty b.1.ty).1,AG (Gp n.o a.1.ty b.1.ty).2 n.z 7 b.2)
 else bif Ac (n.k=33) then (AF n [a.1] tInt,DA a.1 6 n.z a.2)
 else bif Ac (n.k=37) then (AF n [a.1] tInt,DA a.1 5 (Aa n 0).z a.2)
 else bif Ac (n.k=35) then (AF n [a.1] ⟨5,[]⟩,DA a.1 1 (Aa n 0).z a.2)
 else bif Ac (n.k=36) then (AF n [a.1] ⟨6,[]⟩,DA a.1 1 (Aa n 0).z a.2)
 else (AF n [a.1] Az,a.2)
def Eg(S:Ak):Nd×Ak :=
 bif Ac (n.k=24) then (AF n [] tInt,S)
 else bif Ac (n.k=25) then (AF n [] tBool,S)
 else bif Ac (n.k=26) then (AF n [] tNil,S)
 else bif Ac (n.k=38) then Nw n x S
 else bif Ac (n.k=30) then Jf n x S
 else bif Ac (n.k=27) then ((Cx F S n).1,bif (Cx F S n).2 then AG (E4 (Cx F S n).1.ty) n.z 7 S else DV n.z 5 S)
 else bif Ac (n.k=28) then ((Er F n x S).1.1,AG (!((Er F n x S).1.2 && !E4 (Er F n x S).1.1.ty)) n.z 7 (Er F n x S).2)
 else bif Ac (n.k=34) then (AF n [] ⟨4,n.o⟩,AG (!Ac ((A9 F 2 n.o).2<0)) n.z 5 S)
 else Fu n x S
def Gz(S:Ak):Nd×Ak:=bif Ac ((Aa n 0).k=28) then (((x 0).N S).1.1,((x 0).N S).2) else (((x 0).rcv S).1,S)
def FB(S:Ak):(Nd×List Bo×Bo)×Ak :=
 bif Ac (n.k=28)&&((x 0).rcv S).2 then
  let r:=Gz n x S
  ((AF n [r.1] Az,(Ds r.1.ty n.o).1,(Ds r.1.ty n.o).2.1),AG (Ds r.1.ty n.o).2.2 n.z 5 r.2)
 else bif Ac (n.k=27)&&((Cx F S n).2&&Ac ((Cx F S n).1.ref=3)) then
  (((Cx F S n).1,(Aa (A9 F 4 n.o).1 0).j.map (fun p=>(Bx (Aa p 0)).1),(Bx (Aa (A9 F 4 n.o).1 1)).1),S)
 else
  let a:=Eg F n x S
  ((a.1,[],Az),AG (BL a.1.ty tFunc) n.z 7 a.2)
def Gj(S:Ak):Nat→List Nd×Ak
 | 0=>([],S)
 | i+1 =>
  let a:=Gj S i
  let e:=(x i).st a.2
  (a.1++[e.1],e.2)
def OX(S:Ak):Nd×Ak:=(AF n (Gj x S n.j.length).1 Az,(Gj x S n.j.length).2)
def Qy(S:Ak):Nd×Ak:=((OX n x (El S)).1,IY (OX n x (El S)).2)
def GH(k:Nd)(y:FQ)(S:Ak):Nd×Ak :=
 bif Ac (k.k=9) then (DJ k,S) else ((y.ex S).1,DA (y.ex S).1 2 k.z (y.ex S).2)
def Jc(S:Ak):Nd×Ak :=
 let a:=GH (Aa n 0) (x 0) S
 let b:=(x 1).H a.2
 let e:=bif Ac ((Aa n 2).k=10) then (x 2).H b.2 else bif Ac ((Aa n 2).k=18) then (x 2).ifs b.2 else (DJ (Aa n 2),b.2)
 (AF n [a.1,b.1,e.1] Az,e.2)
def Lf(S:Ak):Nd×Ak :=
 let a:=(x 0).ex S
 let b:=(x 1).ex (AG (((Ac (a.1.k=27) && !Ac (a.1.ref=3)) || Ac (a.1.k=28)) || Ac (a.1.k=29)) (Aa n 0).z 7 a.2)
 (AF n [a.1,b.1] Az,AG (EE a.1.ty b.1.ty) (Aa n 1).z 7 b.2)
def MY(first:Bool)(S:Ak):Nd×Ak :=
 let a:=bif Ac ((Aa n 0).k=9) then (DJ (Aa n 0),AG first n.z 6 (El S)) else (x 0).st (El S)
 let b:=(x 1).M a.2
 (AF n [a.1,b.1] Az,IY b.2)
def CK(S:Ak):Nat→List Nd×Bool×Ak
 | 0=>([],true,S)
 | i+1 =>
  let a:=CK S i
  let e:=(x i).cas a.2.1 a.2.2
  (a.1++[e.1],a.2.1 && !Ac ((Aa (Aa n i) 0).k=9),e.2)
def R2(S:Ak):Nd×Ak:=(AF n (CK n x S n.j.length).1 Az,(CK n x S n.j.length).2.2)
def JT(ks:List Nd)(k:Nat):Nd:=.mk n.k n.o k n.z ks Az 1 0
def H5(S:Ak):Nd×Ak :=
 let a:=bif Ac ((Aa n 1).k=9) then (DJ (Aa n 1),DS F (Aa n 0) S) else (((x 1).ex (DS F (Aa n 0) S)).1,AG (EE (Bx (Aa n 0)).1 ((x 1).ex (DS F (Aa n 0) S)).1.ty) (Aa n 1).z 7 ((x 1).ex (DS F (Aa n 0) S)).2)
 (JT n [BP (Aa n 0),a.1] (Ea a.2),GQ n.o (Bx (Aa n 0)).1 n.z a.2)
def L4(S:Ak):Nd×Ak :=
 let a:=(x 0).ex S
 let S1:=AG (E4 a.1.ty) (Aa n 0).z 7 a.2
 (JT n [a.1] (Ea S1),GQ n.o a.1.ty n.z S1)
def NO(S:Ak):Nd×Ak :=
 let a:=GH (Aa n 0) (x 0) S
 let b:=(x 1).H a.2
 (AF n [a.1,b.1] Az,b.2)
def Io(S:Ak):Nd×Ak :=
 let S1:=AG (!Bool.xor (Ac ((n.j.length:Int)=1)) (!BL S.E Az)) n.z 7 S
 bif Ac ((n.j.length:Int)=1) then
  (AF n [((x 0).ex S1).1] Az,AG (EE ((x 0).ex S1).2.E ((x 0).ex S1).1.ty) (Aa n 0).z 7 ((x 0).ex S1).2)
 else (AF n [] Az,S1)
def Dy(S:Ak):Nd×Ak :=
 bif Ac (n.k=10) then Qy n x S
 else bif Ac (n.k=18) then Jc n x S
 else bif Ac (n.k=12) then Lf n x S
 else bif Ac (n.k=22) then R2 n x S
 else bif Ac (n.k=6) then H5 F n x S
 else bif Ac (n.k=11) then L4 n x S
 else bif Ac (n.k=19) then NO n x S
 else bif Ac (n.k=20) then Io n x S
 else
  let a:=(x 0).ex S
  bif Ac (n.k=16) then
   let b:=(x 1).ex (DA a.1 6 (Aa n 0).z a.2)
   (AF n [a.1,b.1] Az,DA b.1 1 (Aa n 1).z b.2)
  else bif Ac (n.k=17) then (AF n [a.1] Az,DA a.1 6 (Aa n 0).z a.2)
  else bif Ac (n.k=21) then (AF n [a.1] Az,AG (Ac (a.1.ty.k=1) || Ac (a.1.ty.k=2)) (Aa n 0).z 7 a.2)
  else (AF n [a.1] Az,a.2)
end
def OY(F t:Nd)(x:Nat→FQ):FQ:=⟨Eg F t x,Er F t x,G4 F t x,FB F t x,Dy F t x,Qy t x,Jc t x,OX t x,MY t x⟩
def Af(F t:Nd):FQ:=Jx (fun t l=>OY F t fun i=>l.getD i Ow) t
def Av(F t:Nd)(i:Nat):FQ:=(t.j.map (Af F)).getD i Ow
theorem GL(F t:Nd):Af F t=OY F t (Av F t):=Lw _ t
theorem Dq{F t:Nd}{i:Nat}(h:i<t.j.length):Av F t i=Af F (Aa t i):=by
 rw [Av,Em h];simp [Cq,Ei h]
def Dc(F p:Nd)(S:Ak):Nat→List Nd×Ak
 | 0=>([],S)
 | i+1 =>
  let a:=Dc F p S i
  let f:=Aa p i
  (a.1++[.mk f.k f.o (Ea a.2) f.z (f.j.map BP) Az 1 0],DS F (Aa f 0) (GQ f.o (Bx (Aa f 0)).1 f.z a.2))
def Na(t:Nd)(l:List (Bool×Bool)):Bool×Bool :=
 (bif Ac (t.k=20) then true
  else bif Ac (t.k=19) then Ac ((Aa t 0).k=9)
  else bif Ac (t.k=10) then (l.getLast?.getD (false,false)).1
  else bif Ac (t.k=18) then (l.getD 1 (false,false)).2&&((Ac ((Aa t 2).k=10)&&(l.getD 2 (false,false)).2) || (Ac ((Aa t 2).k=18)&&(l.getD 2 (false,false)).1))
  else false,(l.getLast?.getD (false,false)).1)
def Iw(t:Nd):Bool×Bool:=Jx Na t
theorem ND(t:Nd):Iw t=Na t (t.j.map Iw):=Lw _ t
def HO(l:List Nd):Bool:=((l.map Iw).getLast?.getD (false,false)).1
theorem Ro(t:Nd):(Iw t).2=HO t.j:=by rw [ND];rfl
def C9(S:Ak):Ak:={ S with F:=[],w:=0,D:=0,next:=[0] }
def Lz(F n:Nd)(S:Ak):Ak:={ (Dc F (Aa n 0) (C9 S) (Aa n 0).j.length).2 with E:=Az }
def Gs(F n:Nd)(S:Ak):Ak:=bif Ac ((Aa n 1).k=9) then Lz F n S else { DS F (Aa n 1) (Lz F n S) with E:=(Bx (Aa n 1)).1 }
def HZ(F n:Nd)(S:Ak):Nd×Ak :=
 let b:=(Af F (Aa n 2)).M (Gs F n S)
 (AF n [AF (Aa n 0) (Dc F (Aa n 0) (C9 S) (Aa n 0).j.length).1 Az,BP (Aa n 1),b.1] Az,
  AG (Ac ((Aa n 1).k=9) || HO (Aa n 2).j) n.z 7 b.2)
def Ge(n:Nd)(i:Nat):Bool:=(n.j.take i).any fun k=>Ac (k.o=(Aa n i).o)
def FV(n:Nd)(S:Ak):Nat→Ak
 | 0=>S
 | i+1=>AG (!Ge n i) (Aa n i).z 6 (FV n S i)
def H1(F n:Nd)(S:Ak):Nat→Ak
 | 0=>S
 | i+1=>I5 F (Aa (Aa n i) 0) (AG (!Ge n i) (Aa n i).z 6 (H1 F n S i))
def GB(F n:Nd)(S:Ak):Nd×Ak :=
 bif Ac (n.k=2) then (BP n,H1 F n S n.j.length)
 else bif Ac (n.k=6) then (BP n,I5 F (Aa n 0) S)
 else bif Ac (n.k=4) then HZ F n S
 else (BP n,S)
def Es(F:Nd)(S:Ak):Nat→List Nd×Ak
 | 0=>([],S)
 | i+1 =>
  let a:=Es F S i
  let e:=GB F (Aa F i) a.2
  (a.1++[e.1],e.2)
def Ee:Ak:=⟨[],0,0,[],Az,0,0⟩
def Mo(F:Nd)(S:Ak):Ak :=
 bif Ac ((A9 F 4 [109,97,105,110]).2<0) then DV 0 5 S
 else bif Ac (0<((Aa (A9 F 4 [109,97,105,110]).1 0).j.length:Int)) || !Ac ((Aa (A9 F 4 [109,97,105,110]).1 1).k=9) then DV (A9 F 4 [109,97,105,110]).1.z 7 S else S
def F7(F:Nd):Ak:=Mo F (Es F (FV F Ee F.j.length) F.j.length).2
def LC(F:Nd):Nd:=AF F (Es F (FV F Ee F.j.length) F.j.length).1 Az
def D8(F:Nd):Nd×Int×Int :=
 bif Hf F then (bif Ac ((F7 F).ee=0) then (LC F,0,0) else (Fr,(F7 F).ea,(F7 F).ee)) else (Fr,0,1)
structure EO (S:Ak) (N:Nat):Prop where
  vl:S.F.length≤N
  nl:S.next.length≤N+1
  nx:∀ k∈S.next,k≤N
  lv:S.D<S.next.length
  sc:S.w≤N
  vs:∀ v∈S.F,v.num≤N∧v.D≤N∧v.w≤N
theorem EO.mono{S:Ak}{N M:Nat}(h:EO S N)(hm:N≤M):EO S M :=
 ⟨D4 h.vl hm,by have:=h.nl;omega,fun k hk=>D4 (h.nx k hk) hm,h.lv,D4 h.sc hm,fun v hv=>by have:=h.vs v hv;omega⟩
structure BW (d:Nat) (S S':Ak):Prop where
  D:S'.D=S.D
  w:S'.w=S.w
  E:S'.E=S.E
  ers:S.ee≠0→S'.ee=S.ee∧S'.ea=S.ea
  bd:∀ N,EO S N→EO S' (N+d)
theorem BW.refl(S:Ak):BW 0 S S:=⟨rfl,rfl,rfl,fun _=>⟨rfl,rfl⟩,fun N h=>h⟩
theorem BW.trans{a b:Nat}{S T U:Ak}(h:BW a S T)(k:BW b T U):BW (a+b) S U :=
 ⟨k.D.trans h.D,k.w.trans h.w,k.E.trans h.E,fun he=>⟨(k.ers (by rw [(h.ers he).1];exact he)).1.trans (h.ers he).1,(k.ers (by rw [(h.ers he).1];exact he)).2.trans (h.ers he).2⟩,fun N hN=>by have:=k.bd _ (h.bd N hN);rwa [Nat.add_assoc] at this⟩
theorem BW.mono{a b:Nat}{S T:Ak}(h:BW a S T)(hb:a≤b):BW b S T:=⟨h.D,h.w,h.E,h.ers,fun N hN=>(h.bd N hN).mono O⟩
theorem BW.of{S T:Ak}(h1:T.F=S.F)(h2:T.w=S.w)(h3:T.D=S.D)(h4:T.next=S.next)(h5:T.E=S.E)(h6:S.ee≠0→T.ee=S.ee∧T.ea=S.ea):BW 0 S T :=
 ⟨h3,h2,h5,h6,fun N h=>⟨by rw [h1];exact h.vl,by rw [h4];exact h.nl,by rw [h4];exact h.nx,by rw [h3,h4];exact h.lv,by rw [h2];exact h.sc,by rw [h1];exact h.vs⟩⟩
theorem Ok(a e:Int)(S:Ak):(DV a e S).F=S.F∧(DV a e S).w=S.w∧(DV a e S).D=S.D∧(DV a e S).next=S.next∧(DV a e S).E=S.E∧(S.ee≠0→(DV a e S).ee=S.ee∧(DV a e S).ea=S.ea):=by
 unfold DV;cases h:Ac (S.ee=0);exact ⟨rfl,rfl,rfl,rfl,rfl,fun _=>⟨rfl,rfl⟩⟩;exact ⟨rfl,rfl,rfl,rfl,rfl,fun hn=>absurd (AH h) hn⟩
theorem NV(b:Bool)(a e:Int)(S:Ak):(AG b a e S).F=S.F∧(AG b a e S).w=S.w∧(AG b a e S).D=S.D∧(AG b a e S).next=S.next∧(AG b a e S).E=S.E∧(S.ee≠0→(AG b a e S).ee=S.ee∧(AG b a e S).ea=S.ea):=by
 unfold AG;cases b;exact Ok a e S;exact ⟨rfl,rfl,rfl,rfl,rfl,fun _=>⟨rfl,rfl⟩⟩
theorem gZ(a e:Int)(S:Ak):BW 0 S (DV a e S):=by obtain ⟨h1,h2,h3,h4,h5,h6⟩:=Ok a e S;exact BW.of h1 h2 h3 h4 h5 h6
theorem SJ(b:Bool)(a e:Int)(S:Ak):BW 0 S (AG b a e S):=by obtain ⟨h1,h2,h3,h4,h5,h6⟩:=NV b a e S;exact BW.of h1 h2 h3 h4 h5 h6
theorem BW.am{d:Nat}{S T:Ak}(h:BW d S T)(a e:Int):BW d S (DV a e T):=h.trans (gZ a e T)
theorem BW.I{d:Nat}{S T:Ak}(h:BW d S T)(b:Bool)(a e:Int):BW d S (AG b a e T):=h.trans (SJ b a e T)
theorem BW.cond{d:Nat}{S T U:Ak}{b:Bool}(h:BW d S T)(k:BW d S U):BW d S (bif b then T else U):=by cases b <;> assumption
theorem nD(F n:Nd)(S:Ak):BW 0 S (I5 F n S):=((BW.refl S).I _ _ _).cond (BW.refl S)
theorem SD(F n:Nd)(S:Ak):BW 0 S (DS F n S):=(nD F n S).I _ _ _
theorem Acs{l:List Nat}{i:Nat}{a x:Nat}(h:x∈l.set i a):x∈l∨x=a:=List.mem_or_eq_of_mem_set h
theorem jK{S:Ak}{N:Nat}(h:EO S N):Ea S≤N:=by
 have hl:=h.lv;have:Ea S=S.next[S.D]:=by rw [Ea,Cq,Ei hl];rfl
 rw [this];exact h.nx _ (AA hl)
theorem RR(s:List UInt8)(y:Bo)(a:Int)(S:Ak):BW 1 S (GQ s y a S):=by
 have hq:=NV (!KD S s) a 6 S;refine ⟨hq.2.2.1,hq.2.1,hq.2.2.2.2.1,hq.2.2.2.2.2,fun N h=>?_⟩;have hd:=jK h;refine ⟨?_,?_,?_,?_,?_,?_⟩;show (S.F++[_]).length≤_;have:=h.vl;simp;omega;show (S.next.set _ _).length≤_;have:=h.nl;simp;omega;intro k hk;rcases Acs (show k∈S.next.set S.D (Ea S+1) from hk) with h1|h1;have:=h.nx k h1;omega;omega;show (AG (!KD S s) a 6 S).D<(S.next.set _ _).length;rw [hq.2.2.1];have:=h.lv;simp;omega;show (AG (!KD S s) a 6 S).w≤_;rw [hq.2.1];have:=h.sc;omega;intro v hv;have hv:v∈S.F++[⟨s,y,Ea S,S.D,S.w⟩]:=hv;rcases E8.1 hv with h1|h1;have:=h.vs v h1;omega;obtain rfl:=Ip.1 h1;have h2:=h.lv;have h3:=h.nl;have h4:=h.sc;exact ⟨by show Ea S≤_;omega,by show S.D≤_;omega,by show S.w≤_;omega⟩
theorem uO(sc:Nat)(l:List Dz):(JG sc l).length≤l.length:=by
 unfold JG;rw [Kp];have h:(l.reverse.dropWhile fun v=>Ac (v.w=sc)).length≤l.reverse.length:=(KJ _).length_le;rwa [Kp] at h
theorem oR{sc:Nat}{l:List Dz}{v:Dz}(h:v∈JG sc l):v∈l:=by
 unfold JG at h;exact E6.1 ((KJ _).subset (E6.1 h))
theorem iH{d:Nat}{S T:Ak}(h:BW d (El S) T):BW (1+d) S (IY T):=by
 refine ⟨h.D,?_,h.E,h.ers,fun N hN=>?_⟩;show T.w-1=S.w;rw [h.w];rfl;have h1:EO (El S) (N+1):=⟨by have:=hN.vl;show S.F.length≤_;omega,by have:=hN.nl;show S.next.length≤_;omega,fun k hk=>by have:=hN.nx k hk;omega,hN.lv,by have:=hN.sc;show S.w+1≤_;omega,fun v hv=>by have:=hN.vs v hv;omega⟩;have h2:=h.bd _ h1;rw [show N+1+d=N+(1+d) by omega] at h2;refine ⟨D4 (uO _ _) h2.vl,h2.nl,h2.nx,h2.lv,D4 (Nat.sub_le _ _) h2.sc,fun v hv=>h2.vs v (oR hv)⟩
theorem Vf{S:Ak}{N:Nat}(h:EO S N):EO (Fk S) (N+1):=by
 have hl:=h.lv;have hn:=h.nl;refine ⟨by have:=h.vl;show S.F.length≤_;omega,?_,?_,?_,by have:=h.sc;show S.w≤_;omega,fun v hv=>by have:=h.vs v hv;omega⟩;show (S.next.take (S.D+1)++[0]).length≤_;simp;omega;intro k hk;rcases E8.1 (show k∈S.next.take (S.D+1)++[0] from hk) with h1|h1;have:=h.nx k (Lo h1);omega;simp at h1;omega;show S.D+1<(S.next.take (S.D+1)++[0]).length;simp;omega
theorem vJ{d:Nat}{S T:Ak}(h:BW d (Fk S) T):BW (1+d) S { T with D:=T.D-1,E:=S.E }:=by
 have hl:T.D=S.D+1:=h.D;refine ⟨by show T.D-1=_;omega,h.w,rfl,h.ers,fun N hN=>?_⟩;have h2:=h.bd _ (Vf hN);rw [show N+1+d=N+(1+d) by omega] at h2;exact ⟨h2.vl,h2.nl,h2.nx,by have:=h2.lv;show T.D-1<T.next.length;omega,h2.sc,h2.vs⟩
def DT(t:Nd)(i:Nat):Nat:=(t.j.map count).getD i 0
def CU(t:Nd):Nat→Nat
 | 0=>0
 | i+1=>CU t i+DT t i
theorem pS(t:Nd)(i:Nat):CU t i=((t.j.map count).take i).sum:=by
 induction i with
 | zero=>rfl
 | succ i ih =>
  rw [CU,ih,List.take_add_one,DT,Cq,List.sum_append];cases (t.j.map count)[i]? <;> simp
theorem IK(t:Nd)(i:Nat):CU t i+1≤count t:=by
 rw [pS,J7];have:=YG (t.j.map count) i;omega
theorem It{t:Nd}{i:Nat}(h:i<t.j.length):DT t i=count (Aa t i):=by
 rw [DT,Em h];simp [Cq,Ei h]
structure GT (c:FQ) (d:Nat):Prop where
  ex:∀ S,BW d S (c.ex S).2
  N:∀ S,BW d S (c.N S).2
  K:∀ S,BW d S (c.K S).2
  st:∀ S,BW d S (c.st S).2
  H:∀ S,BW d S (c.H S).2
  ifs:∀ S,BW d S (c.ifs S).2
  M:∀ S,BW d S (c.M S).2
  cas:∀ f S,BW d S (c.cas f S).2
theorem iI:GT Ow 0:=⟨fun S=>BW.refl S,fun S=>BW.refl S,fun S=>BW.refl S,fun S=>BW.refl S,fun S=>BW.refl S,fun S=>BW.refl S,fun S=>BW.refl S,fun _ S=>BW.refl S⟩
section
variable {F t:Nd} {x:Nat→FQ}
theorem cY(X:∀ i,GT (x i) (DT t i))(S:Ak):BW (CU t 1) S (Er F t x S).2:=by
 have h:BW (CU t 1) S ((x 0).ex S).2:=((X 0).ex S).mono (by simp [CU]);unfold Er;dsimp only;cases Ac (((x 0).ex S).1.ty.k=4);exact h.am _ _;simp only [AL];split;exact h;exact h.am _ _
theorem Um(X:∀ i,GT (x i) (DT t i))(ps:List Bo){S T:Ak}(h:BW (CU t 1) S T):∀ i,BW (CU t (i+1)) S (Ed t x ps T i).2
 | 0=>h
 | i+1=>((Um X ps h i).trans ((X (i+1)).ex _)).I _ _ _
theorem Abj(X:∀ i,GT (x i) (DT t i))(S:Ak):BW (CU t (t.j.length-1+1)) S (Jf t x S).2 :=
 Um X _ ((((X 0).K S).mono (by simp [CU])).I _ _ _) _
theorem nT(X:∀ i,GT (x i) (DT t i))(S:Ak):BW (1+CU t 1) S (Nw t x S).2:=vJ (((X 0).H _).mono (by simp [CU]))
theorem Uq(X:∀ i,GT (x i) (DT t i))(S:Ak):BW (CU t 1) S ((x 0).ex S).2:=((X 0).ex S).mono (by simp [CU])
theorem vI(X:∀ i,GT (x i) (DT t i))(S:Ak):BW (CU t 2) S (Fu t x S).2:=by
 have h:=Uq X S;have h1:∀ T,BW (CU t 1) S T→BW (CU t 2) S ((x 1).ex T).2:=fun T hT=>hT.trans ((X 1).ex T);have hm:∀ {T},BW (CU t 1) S T→BW (CU t 2) S T:=fun hT=>hT.mono (Nat.le_add_right _ _);unfold Fu;dsimp only [DA];repeat' (first|(generalize Ac (t.k=_)=q;cases q <;> simp only [AL,AQ]))
 all_goals first
  | exact (h1 _ (h.I _ _ _)).I _ _ _
  | exact (h1 _ h).I _ _ _
  | exact hm (h.I _ _ _)
  | exact hm h
theorem eP(X:∀ i,GT (x i) (DT t i))(S:Ak):BW (count t) S (Eg F t x S).2:=by
 have hc:∀ i,CU t i+1≤count t:=IK t;have h0:∀ {T},BW 0 S T→BW (count t) S T:=fun h=>h.mono (A2 _);unfold Eg;cases Ac (t.k=24);case true=>exact h0 (BW.refl S)
 cases Ac (t.k=25);case true=>exact h0 (BW.refl S)
 cases Ac (t.k=26);case true=>exact h0 (BW.refl S)
 cases Ac (t.k=38);case true=>exact (nT X S).mono (by have:=hc 1;omega)
 cases Ac (t.k=30);case true=>exact (Abj X S).mono (by have:=hc (t.j.length-1+1);omega)
 cases Ac (t.k=27);case true=>exact h0 (((BW.refl S).I _ _ _).cond ((BW.refl S).am _ _))
 cases Ac (t.k=28);case true=>exact ((cY X S).I _ _ _).mono (by have:=hc 1;omega)
 cases Ac (t.k=34);case true=>exact h0 ((BW.refl S).I _ _ _)
 exact (vI X S).mono (by have:=hc 2;omega)
theorem zA(X:∀ i,GT (x i) (DT t i))(S:Ak):BW (count t) S (FB F t x S).2:=by
 have hc:=IK t 1;unfold FB;dsimp only;cases Ac (t.k=28)&&((x 0).rcv S).2;simp only [AQ];cases Ac (t.k=27)&&((Cx F S t).2&&Ac ((Cx F S t).1.ref=3));exact (eP X S).I _ _ _;exact (BW.refl S).mono (A2 _);refine BW.I ?_ _ _ _;unfold Gz;cases Ac ((Aa t 0).k=28);exact (BW.refl S).mono (A2 _);exact ((X 0).N S).mono (by simp [CU] at hc;omega)
theorem WX(X:∀ i,GT (x i) (DT t i))(S:Ak):∀ i,BW (CU t i) S (Gj x S i).2
 | 0=>BW.refl S
 | i+1=>(WX X S i).trans ((X i).st _)
theorem bT(X:∀ i,GT (x i) (DT t i))(S:Ak):BW (CU t t.j.length) S (OX t x S).2:=WX X S _
theorem ZA(X:∀ i,GT (x i) (DT t i))(S:Ak):BW (count t) S (Qy t x S).2:=(iH (bT X (El S))).mono (by have:=IK t t.j.length;omega)
theorem Yw(X:∀ i,GT (x i) (DT t i))(k:Nd){S T:Ak}(h:BW 0 S T):BW (CU t 1) S (GH k (x 0) T).2:=by
 unfold GH;cases Ac (k.k=9);exact (h.trans ((X 0).ex T)).mono (by simp [CU]) |>.I _ _ _
 exact h.mono (A2 _)
theorem Z0(X:∀ i,GT (x i) (DT t i))(S:Ak):BW (CU t 3) S (Jc t x S).2:=by
 have h1:BW (CU t 2) S ((x 1).H (GH (Aa t 0) (x 0) S).2).2:=(Yw X _ (BW.refl S)).trans ((X 1).H _);unfold Jc;dsimp only;cases Ac ((Aa t 2).k=10);cases Ac ((Aa t 2).k=18);exact h1.mono (Nat.le_add_right _ _);exact h1.trans ((X 2).ifs _);exact h1.trans ((X 2).H _)
theorem Abq(X:∀ i,GT (x i) (DT t i))(S:Ak):BW (CU t 2) S (Lf t x S).2:=(((Uq X S).I _ _ _).trans ((X 1).ex _)).I _ _ _
theorem xX(X:∀ i,GT (x i) (DT t i))(f:Bool)(S:Ak):BW (1+CU t 2) S (MY t x f S).2:=by
 refine iH (BW.trans (a:=CU t 1) (T:=(bif Ac ((Aa t 0).k=9) then (DJ (Aa t 0),AG f t.z 6 (El S)) else (x 0).st (El S)).2) ?_ ((X 1).M _));cases Ac ((Aa t 0).k=9);exact ((X 0).st _).mono (by simp [CU]);exact ((BW.refl _).I _ _ _).mono (A2 _)
theorem TG(X:∀ i,GT (x i) (DT t i))(S:Ak):∀ i,BW (CU t i) S (CK t x S i).2.2
 | 0=>BW.refl S
 | i+1=>(TG X S i).trans ((X i).cas _ _)
theorem zZ(X:∀ i,GT (x i) (DT t i))(S:Ak):BW (1+CU t 2) S (H5 F t x S).2:=by
 unfold H5;dsimp only;cases Ac ((Aa t 1).k=9);exact (((((SD F _ S).trans ((X 1).ex _)).I _ _ _).trans (RR _ _ _ _)).mono (by simp [CU];omega));exact ((SD F _ S).trans (RR _ _ _ _)).mono O
theorem Aai(X:∀ i,GT (x i) (DT t i))(S:Ak):BW (1+CU t 1) S (L4 t x S).2:=(((Uq X S).I _ _ _).trans (RR _ _ _ _)).mono O
theorem Abg(X:∀ i,GT (x i) (DT t i))(S:Ak):BW (CU t 2) S (NO t x S).2:=(Yw X _ (BW.refl S)).trans ((X 1).H _)
theorem wT(X:∀ i,GT (x i) (DT t i))(S:Ak):BW (CU t 1) S (Io t x S).2:=by
 unfold Io;dsimp only;cases Ac ((t.j.length:Int)=1);exact ((BW.refl S).I _ _ _).mono (A2 _);exact ((((BW.refl S).I _ _ _).trans ((X 0).ex _)).mono (by simp [CU])).I _ _ _
theorem sL(X:∀ i,GT (x i) (DT t i))(S:Ak):BW (count t) S (Dy F t x S).2:=by
 have hc:∀ i,CU t i+1≤count t:=IK t;unfold Dy;dsimp only;cases Ac (t.k=10);case true=>exact ZA X S
 cases Ac (t.k=18);case true=>exact (Z0 X S).mono (by have:=hc 3;omega)
 cases Ac (t.k=12);case true=>exact (Abq X S).mono (by have:=hc 2;omega)
 cases Ac (t.k=22);case true=>exact (TG X S _).mono (by have:=hc t.j.length;omega)
 cases Ac (t.k=6);case true=>exact (zZ X S).mono (by have:=hc 2;omega)
 cases Ac (t.k=11);case true=>exact (Aai X S).mono (by have:=hc 1;omega)
 cases Ac (t.k=19);case true=>exact (Abg X S).mono (by have:=hc 2;omega)
 cases Ac (t.k=20);case true=>exact (wT X S).mono (by have:=hc 1;omega)
 have h:=Uq X S;simp only [AQ,DA];cases Ac (t.k=16);case true=>exact (((h.I _ _ _).trans ((X 1).ex _)).I _ _ _).mono (by have:=hc 2;simp only [CU] at this ⊢;omega)
 cases Ac (t.k=17);case true=>exact (h.I _ _ _).mono (by have:=hc 1;omega)
 cases Ac (t.k=21);case true=>exact (h.I _ _ _).mono (by have:=hc 1;omega)
 exact h.mono (by have:=hc 1;omega)
theorem mA(X:∀ i,GT (x i) (DT t i)):GT (OY F t x) (count t) :=
 ⟨eP X,fun S=>(cY X S).mono (by have:=IK t 1;omega),zA X,sL X,ZA X,fun S=>(Z0 X S).mono (by have:=IK t 3;omega),fun S=>(bT X S).mono (by have:=IK t t.j.length;omega),fun f S=>(xX X f S).mono (by have:=IK t 2;omega)⟩
end
theorem EG(F:Nd):∀ t,GT (Af F t) (count t):=by
 refine Nd.ap fun t ih=>?_;rw [GL];refine mA fun i=>?_;by_cases h:i<t.j.length;rw [Dq h,It h,Em h];exact ih _ (AA h);rw [Av,DT];simp only [Cq,Ez];rw [DQ O];exact iI
theorem NF(F t:Nd)(i:Nat):GT (Av F t i) (DT t i):=by
 by_cases h:i<t.j.length;rw [Dq h,It h];exact EG F _;rw [Av,DT];simp only [Cq,Ez];rw [DQ O];exact iI
def D3(S:Ak):Prop:=∀ v∈S.F,v.w≤S.w
structure Cm (S T:Ak):Prop where
  F:T.F=S.F
  w:T.w=S.w
structure JQ (S T:Ak):Prop where
  F:∃ l,T.F=S.F++l∧∀ v∈l,v.w=S.w
  w:T.w=S.w
theorem Cm.refl(S:Ak):Cm S S:=⟨rfl,rfl⟩
theorem Cm.trans{S T U:Ak}(h:Cm S T)(k:Cm T U):Cm S U:=⟨k.F.trans h.F,k.w.trans h.w⟩
theorem Cm.sc{S T:Ak}(h:Cm S T)(k:D3 S):D3 T:=fun v hv=>by rw [h.w];exact k v (h.F▸hv)
theorem Cm.vp{S T:Ak}(h:Cm S T):JQ S T:=⟨⟨[],by rw [h.F,List.append_nil],fun v hv=>by cases hv⟩,h.w⟩
theorem JQ.sc{S T:Ak}(h:JQ S T)(k:D3 S):D3 T:=fun v hv=>by
 obtain ⟨l,h1,h2⟩:=h.F;rw [h.w];rcases E8.1 (h1▸hv) with q|q;exact k v q;exact Nat.le_of_eq (h2 v q)
theorem JQ.trans{S T U:Ak}(h:JQ S T)(k:JQ T U):JQ S U:=by
 obtain ⟨l,h1,h2⟩:=h.F;obtain ⟨m,k1,k2⟩:=k.F;refine ⟨⟨l++m,by rw [k1,h1,IH],fun v hv=>?_⟩,k.w.trans h.w⟩;rcases E8.1 hv with q|q;exact h2 v q;rw [k2 v q,h.w]
theorem zO(a e:Int)(S:Ak):Cm S (DV a e S):=⟨(Ok a e S).1,(Ok a e S).2.1⟩
theorem Aah(b:Bool)(a e:Int)(S:Ak):Cm S (AG b a e S):=⟨(NV b a e S).1,(NV b a e S).2.1⟩
theorem Cm.am{S T:Ak}(h:Cm S T)(a e:Int):Cm S (DV a e T):=h.trans (zO a e T)
theorem Cm.I{S T:Ak}(h:Cm S T)(b:Bool)(a e:Int):Cm S (AG b a e T):=h.trans (Aah b a e T)
theorem Cm.cond{S T U:Ak}{b:Bool}(h:Cm S T)(k:Cm S U):Cm S (bif b then T else U):=by cases b <;> assumption
theorem mB(F n:Nd)(S:Ak):Cm S (I5 F n S):=((Cm.refl S).I _ _ _).cond (Cm.refl S)
theorem RE(F n:Nd)(S:Ak):Cm S (DS F n S):=(mB F n S).I _ _ _
theorem V4(s:List UInt8)(y:Bo)(a:Int)(S:Ak):JQ S (GQ s y a S) :=
 ⟨⟨[⟨s,y,Ea S,S.D,S.w⟩],rfl,fun v hv=>by rw [Ip.1 hv]⟩,(NV (!KD S s) a 6 S).2.1⟩
theorem iE{sc:Nat}{vs l:List Dz}(h1:∀ v∈l,v.w=sc)(h2:∀ v∈vs,v.w<sc):JG sc (vs++l)=vs:=by
 unfold JG;rw [Kn]
 have e:∀ (a b:List Dz),(∀ v∈a,v.w=sc)→(∀ v∈b,v.w<sc)→(a++b).dropWhile (fun v=>Ac (v.w=sc))=b:=by
  intro a b ha hb
  induction a with
  | nil =>
   cases b with
   | nil=>rfl
   | cons x b=>rw [List.nil_append,List.dropWhile_cons_of_neg];have:=hb x Gq;simp;omega
  | cons x a ih=>rw [List.cons_append,List.dropWhile_cons_of_pos (by simp [ha x Gq])];exact ih fun v hv=>ha v (Gm _ hv)
 rw [e l.reverse vs.reverse (fun v hv=>h1 v (E6.1 hv)) (fun v hv=>h2 v (E6.1 hv)),List.reverse_reverse]
theorem bI{S T:Ak}(hs:D3 S)(h:JQ (El S) T):Cm S (IY T):=by
 obtain ⟨l,h1,h2⟩:=h.F;have aa:T.w=S.w+1:=h.w;refine ⟨?_,by show T.w-1=_;omega⟩;show JG T.w T.F=S.F;rw [h1,aa];exact iE h2 fun v hv=>Nat.lt_succ_of_le (hs v hv)
theorem Uf{S:Ak}(h:D3 S):D3 (El S):=fun v hv=>Nat.le_succ_of_le (h v hv)
theorem yW{S T:Ak}(h:Cm (Fk S) T):Cm S { T with D:=T.D-1,E:=S.E }:=⟨h.F,h.w⟩
structure G6 (c:FQ):Prop where
  ex:∀ S,D3 S→Cm S (c.ex S).2
  N:∀ S,D3 S→Cm S (c.N S).2
  K:∀ S,D3 S→Cm S (c.K S).2
  st:∀ S,D3 S→JQ S (c.st S).2
  H:∀ S,D3 S→Cm S (c.H S).2
  ifs:∀ S,D3 S→Cm S (c.ifs S).2
  M:∀ S,D3 S→JQ S (c.M S).2
  cas:∀ f S,D3 S→Cm S (c.cas f S).2
theorem cJ:G6 Ow:=⟨fun S _=>Cm.refl S,fun S _=>Cm.refl S,fun S _=>Cm.refl S,fun S _=>(Cm.refl S).vp,fun S _=>Cm.refl S,fun S _=>Cm.refl S,fun S _=>(Cm.refl S).vp,fun _ S _=>Cm.refl S⟩
section
variable {F t:Nd} {x:Nat→FQ}
theorem Cm.ex(X:∀ i,G6 (x i)){S T:Ak}(h:Cm S T)(hs:D3 S)(i:Nat):Cm S ((x i).ex T).2:=h.trans ((X i).ex T (h.sc hs))
theorem Cm.H(X:∀ i,G6 (x i)){S T:Ak}(h:Cm S T)(hs:D3 S)(i:Nat):Cm S ((x i).H T).2:=h.trans ((X i).H T (h.sc hs))
theorem Z9(X:∀ i,G6 (x i)){S:Ak}(hs:D3 S):Cm S (Er F t x S).2:=by
 have h:=Cm.ex X (Cm.refl S) hs 0;unfold Er;dsimp only;cases Ac (((x 0).ex S).1.ty.k=4);exact h.am _ _;simp only [AL];split;exact h;exact h.am _ _
theorem VV(X:∀ i,G6 (x i))(ps:List Bo){S T:Ak}(hs:D3 S)(h:Cm S T):∀ i,Cm S (Ed t x ps T i).2
 | 0=>h
 | i+1=>(Cm.ex X (VV X ps hs h i) hs (i+1)).I _ _ _
theorem Adp(X:∀ i,G6 (x i)){S:Ak}(hs:D3 S):Cm S (Jf t x S).2:=VV X _ hs (((X 0).K S hs).I _ _ _) _
theorem Adw(X:∀ i,G6 (x i)){S:Ak}(hs:D3 S):Cm S (Nw t x S).2:=yW ((X 0).H (Fk S) hs)
theorem nC(X:∀ i,G6 (x i)){S:Ak}(hs:D3 S):Cm S (Fu t x S).2:=by
 have h:=Cm.ex X (Cm.refl S) hs 0;unfold Fu;dsimp only [DA];repeat' (first|(generalize Ac (t.k=_)=q;cases q <;> simp only [AL,AQ]))
 all_goals first
  | exact (Cm.ex X (h.I _ _ _) hs 1).I _ _ _
  | exact (Cm.ex X h hs 1).I _ _ _
  | exact h.I _ _ _
  | exact h
theorem U0(X:∀ i,G6 (x i)){S:Ak}(hs:D3 S):Cm S (Eg F t x S).2:=by
 unfold Eg;cases Ac (t.k=24);case true=>exact Cm.refl S
 cases Ac (t.k=25);case true=>exact Cm.refl S
 cases Ac (t.k=26);case true=>exact Cm.refl S
 cases Ac (t.k=38);case true=>exact Adw X hs
 cases Ac (t.k=30);case true=>exact Adp X hs
 cases Ac (t.k=27);case true=>exact ((Cm.refl S).I _ _ _).cond ((Cm.refl S).am _ _)
 cases Ac (t.k=28);case true=>exact (Z9 X hs).I _ _ _
 cases Ac (t.k=34);case true=>exact (Cm.refl S).I _ _ _
 exact nC X hs
theorem xH(X:∀ i,G6 (x i)){S:Ak}(hs:D3 S):Cm S (FB F t x S).2:=by
 unfold FB;dsimp only;cases Ac (t.k=28)&&((x 0).rcv S).2;simp only [AQ];cases Ac (t.k=27)&&((Cx F S t).2&&Ac ((Cx F S t).1.ref=3));exact (U0 X hs).I _ _ _;exact Cm.refl S;refine Cm.I ?_ _ _ _;unfold Gz;cases Ac ((Aa t 0).k=28);exact Cm.refl S;exact (X 0).N S hs
theorem Uu(X:∀ i,G6 (x i)){S:Ak}(hs:D3 S):∀ i,JQ S (Gj x S i).2
 | 0=>(Cm.refl S).vp
 | i+1=>(Uu X hs i).trans ((X i).st _ ((Uu X hs i).sc hs))
theorem Y7(X:∀ i,G6 (x i)){S:Ak}(hs:D3 S):JQ S (OX t x S).2:=Uu X hs _
theorem V7(X:∀ i,G6 (x i)){S:Ak}(hs:D3 S):Cm S (Qy t x S).2:=bI hs (Y7 X (Uf hs))
theorem bN(X:∀ i,G6 (x i))(k:Nd){S:Ak}(hs:D3 S):Cm S (GH k (x 0) S).2:=by
 unfold GH;cases Ac (k.k=9);exact ((X 0).ex S hs).I _ _ _;exact Cm.refl S
theorem Vr(X:∀ i,G6 (x i)){S:Ak}(hs:D3 S):Cm S (Jc t x S).2:=by
 have h1:Cm S ((x 1).H (GH (Aa t 0) (x 0) S).2).2:=Cm.H X (bN X _ hs) hs 1;unfold Jc;dsimp only;cases Ac ((Aa t 2).k=10);cases Ac ((Aa t 2).k=18);exact h1;exact h1.trans ((X 2).ifs _ (h1.sc hs));exact h1.trans ((X 2).H _ (h1.sc hs))
theorem gF(X:∀ i,G6 (x i)){S:Ak}(hs:D3 S):Cm S (Lf t x S).2:=(Cm.ex X ((Cm.ex X (Cm.refl S) hs 0).I _ _ _) hs 1).I _ _ _
theorem Acw(X:∀ i,G6 (x i))(f:Bool){S:Ak}(hs:D3 S):Cm S (MY t x f S).2:=by
 have h:JQ (El S) (bif Ac ((Aa t 0).k=9) then (DJ (Aa t 0),AG f t.z 6 (El S)) else (x 0).st (El S)).2:=by
  cases Ac ((Aa t 0).k=9);exact (X 0).st _ (Uf hs);exact ((Cm.refl _).I _ _ _).vp
 exact bI hs (h.trans ((X 1).M _ (h.sc (Uf hs))))
theorem RM(X:∀ i,G6 (x i)){S:Ak}(hs:D3 S):∀ i,Cm S (CK t x S i).2.2
 | 0=>Cm.refl S
 | i+1=>(RM X hs i).trans ((X i).cas _ _ ((RM X hs i).sc hs))
theorem pK(X:∀ i,G6 (x i)){S:Ak}(hs:D3 S):JQ S (H5 F t x S).2:=by
 unfold H5;dsimp only;cases Ac ((Aa t 1).k=9);exact ((Cm.ex X (RE F _ S) hs 1).I _ _ _).vp.trans (V4 _ _ _ _);exact (RE F _ S).vp.trans (V4 _ _ _ _)
theorem nA(X:∀ i,G6 (x i)){S:Ak}(hs:D3 S):JQ S (L4 t x S).2:=(((X 0).ex S hs).I _ _ _).vp.trans (V4 _ _ _ _)
theorem fJ(X:∀ i,G6 (x i)){S:Ak}(hs:D3 S):Cm S (NO t x S).2:=Cm.H X (bN X _ hs) hs 1
theorem dN(X:∀ i,G6 (x i)){S:Ak}(hs:D3 S):Cm S (Io t x S).2:=by
 unfold Io;dsimp only;cases Ac ((t.j.length:Int)=1);exact (Cm.refl S).I _ _ _;exact (Cm.ex X ((Cm.refl S).I _ _ _) hs 0).I _ _ _
theorem uS(X:∀ i,G6 (x i)){S:Ak}(hs:D3 S):JQ S (Dy F t x S).2:=by
 unfold Dy;dsimp only;cases Ac (t.k=10);case true=>exact (V7 X hs).vp
 cases Ac (t.k=18);case true=>exact (Vr X hs).vp
 cases Ac (t.k=12);case true=>exact (gF X hs).vp
 cases Ac (t.k=22);case true=>exact (RM X hs _).vp
 cases Ac (t.k=6);case true=>exact pK X hs
 cases Ac (t.k=11);case true=>exact nA X hs
 cases Ac (t.k=19);case true=>exact (fJ X hs).vp
 cases Ac (t.k=20);case true=>exact (dN X hs).vp
 have h:=(X 0).ex S hs;simp only [AQ,DA];cases Ac (t.k=16);case true=>exact ((Cm.ex X (h.I _ _ _) hs 1).I _ _ _).vp
 cases Ac (t.k=17);case true=>exact (h.I _ _ _).vp
 cases Ac (t.k=21);case true=>exact (h.I _ _ _).vp
 exact h.vp
theorem mM(X:∀ i,G6 (x i)):G6 (OY F t x) :=
 ⟨fun S h=>U0 X h,fun S h=>Z9 X h,fun S h=>xH X h,fun S h=>uS X h,fun S h=>V7 X h,fun S h=>Vr X h,fun S h=>Y7 X h,fun f S h=>Acw X f h⟩
end
theorem Lm(F:Nd):∀ t,G6 (Af F t):=by
 refine Nd.ap fun t ih=>?_;rw [GL];refine mM fun i=>?_;by_cases h:i<t.j.length;rw [Dq h,Em h];exact ih _ (AA h);rw [Av];simp only [Cq,Ez];rw [DQ O];exact cJ
theorem XB(F t:Nd)(i:Nat):G6 (Av F t i):=by
 by_cases h:i<t.j.length;rw [Dq h];exact Lm F _;rw [Av];simp only [Cq,Ez];rw [DQ O];exact cJ
def Fh(S:Ak):Prop:=S.D<S.next.length
structure Gt (S T:Ak):Prop where
  lv:T.D=S.D
  nx:∀ i,i<S.D→T.next[i]? = S.next[i]?
  ln:S.D<T.next.length
structure CX (S T:Ak):Prop where
  lv:T.D=S.D
  nx:∀ i,i≤S.D→T.next[i]? = S.next[i]?
  ln:S.D<T.next.length
theorem CX.refl{S:Ak}(h:Fh S):CX S S:=⟨rfl,fun _ _=>rfl,h⟩
theorem CX.nl{S T:Ak}(h:CX S T):Gt S T:=⟨h.lv,fun i hi=>h.nx i (Nat.le_of_lt hi),h.ln⟩
theorem CX.l{S T:Ak}(h:CX S T):Fh T:=by have:=h.ln;unfold Fh;rw [h.lv];exact this
theorem Gt.l{S T:Ak}(h:Gt S T):Fh T:=by have:=h.ln;unfold Fh;rw [h.lv];exact this
theorem CX.trans{S T U:Ak}(h:CX S T)(k:CX T U):CX S U:=⟨k.lv.trans h.lv,fun i hi=>(k.nx i (h.lv▸hi)).trans (h.nx i hi),h.lv▸k.ln⟩
theorem Gt.trans{S T U:Ak}(h:Gt S T)(k:Gt T U):Gt S U:=⟨k.lv.trans h.lv,fun i hi=>(k.nx i (h.lv▸hi)).trans (h.nx i hi),h.lv▸k.ln⟩
theorem Zw{S T:Ak}(h:Fh S)(h3:T.D=S.D)(h4:T.next=S.next):CX S T:=⟨h3,fun i _=>by rw [h4],by rw [h4];exact h⟩
theorem CX.am{S T:Ak}(h:CX S T)(a e:Int):CX S (DV a e T):=h.trans (Zw h.l (Ok a e T).2.2.1 (Ok a e T).2.2.2.1)
theorem CX.I{S T:Ak}(h:CX S T)(b:Bool)(a e:Int):CX S (AG b a e T):=h.trans (Zw h.l (NV b a e T).2.2.1 (NV b a e T).2.2.2.1)
theorem CX.cond{S T U:Ak}{b:Bool}(h:CX S T)(k:CX S U):CX S (bif b then T else U):=by cases b <;> assumption
theorem Wv(F n:Nd){S:Ak}(h:Fh S):CX S (DS F n S):=(((CX.refl h).I _ _ _).cond (CX.refl h)).I _ _ _
theorem W7(s:List UInt8)(y:Bo)(a:Int){S:Ak}(h:Fh S):Gt S (GQ s y a S):=by
 refine ⟨(NV (!KD S s) a 6 S).2.2.1,fun i hi=>?_,?_⟩;show (S.next.set S.D (Ea S+1))[i]? = _;rw [List.getElem?_set_ne O];show S.D<(S.next.set _ _).length;rw [List.length_set];exact h
theorem jX{S T:Ak}(h:Gt (El S) T):Gt S (IY T):=⟨h.lv,h.nx,h.ln⟩
theorem sK{S:Ak}(h:Fh S):Fh (Fk S):=by
 unfold Fh at h;show S.D+1<(S.next.take (S.D+1)++[0]).length;rw [Kv,List.length_take];simp only [Iz,List.length_nil];omega
theorem nX{S T:Ak}(hs:Fh S)(h:Gt (Fk S) T):CX S { T with D:=T.D-1,E:=S.E }:=by
 have h1:T.D=S.D+1:=h.lv;have h3:S.D+1<T.next.length:=h.ln;refine ⟨by show T.D-1=_;omega,fun i hi=>?_,by show S.D<T.next.length;omega⟩;have h2:=h.nx i (show i<S.D+1 by omega);refine h2.trans ?_;show (S.next.take (S.D+1)++[0])[i]? = _;unfold Fh at hs;rw [List.getElem?_append_left (by rw [List.length_take];omega),List.getElem?_take_of_lt O]
structure HA (c:FQ):Prop where
  ex:∀ S,Fh S→CX S (c.ex S).2
  N:∀ S,Fh S→CX S (c.N S).2
  K:∀ S,Fh S→CX S (c.K S).2
  st:∀ S,Fh S→Gt S (c.st S).2
  H:∀ S,Fh S→Gt S (c.H S).2
  ifs:∀ S,Fh S→Gt S (c.ifs S).2
  M:∀ S,Fh S→Gt S (c.M S).2
  cas:∀ f S,Fh S→Gt S (c.cas f S).2
theorem lP:HA Ow:=⟨fun S h=>CX.refl h,fun S h=>CX.refl h,fun S h=>CX.refl h,fun S h=>(CX.refl h).nl,fun S h=>(CX.refl h).nl,fun S h=>(CX.refl h).nl,fun S h=>(CX.refl h).nl,fun _ S h=>(CX.refl h).nl⟩
section
variable {F t:Nd} {x:Nat→FQ}
theorem CX.ex(X:∀ i,HA (x i)){S T:Ak}(h:CX S T)(i:Nat):CX S ((x i).ex T).2:=h.trans ((X i).ex T h.l)
theorem Gt.H(X:∀ i,HA (x i)){S T:Ak}(h:Gt S T)(i:Nat):Gt S ((x i).H T).2:=h.trans ((X i).H T h.l)
theorem ZU(X:∀ i,HA (x i)){S:Ak}(hs:Fh S):CX S (Er F t x S).2:=by
 have h:=CX.ex X (CX.refl hs) 0;unfold Er;dsimp only;cases Ac (((x 0).ex S).1.ty.k=4);exact h.am _ _;simp only [AL];split;exact h;exact h.am _ _
theorem dC(X:∀ i,HA (x i))(ps:List Bo){S T:Ak}(h:CX S T):∀ i,CX S (Ed t x ps T i).2
 | 0=>h
 | i+1=>(CX.ex X (dC X ps h i) (i+1)).I _ _ _
theorem oS(X:∀ i,HA (x i)){S:Ak}(hs:Fh S):CX S (Jf t x S).2:=dC X _ (((X 0).K S hs).I _ _ _) _
theorem wL(X:∀ i,HA (x i)){S:Ak}(hs:Fh S):CX S (Nw t x S).2:=nX hs ((X 0).H (Fk S) (sK hs))
theorem zT(X:∀ i,HA (x i)){S:Ak}(hs:Fh S):CX S (Fu t x S).2:=by
 have h:=CX.ex X (CX.refl hs) 0;unfold Fu;dsimp only [DA];repeat' (first|(generalize Ac (t.k=_)=q;cases q <;> simp only [AL,AQ]))
 all_goals first
  | exact (CX.ex X (h.I _ _ _) 1).I _ _ _
  | exact (CX.ex X h 1).I _ _ _
  | exact h.I _ _ _
  | exact h
theorem cD(X:∀ i,HA (x i)){S:Ak}(hs:Fh S):CX S (Eg F t x S).2:=by
 unfold Eg;cases Ac (t.k=24);case true=>exact CX.refl hs
 cases Ac (t.k=25);case true=>exact CX.refl hs
 cases Ac (t.k=26);case true=>exact CX.refl hs
 cases Ac (t.k=38);case true=>exact wL X hs
 cases Ac (t.k=30);case true=>exact oS X hs
 cases Ac (t.k=27);case true=>exact ((CX.refl hs).I _ _ _).cond ((CX.refl hs).am _ _)
 cases Ac (t.k=28);case true=>exact (ZU X hs).I _ _ _
 cases Ac (t.k=34);case true=>exact (CX.refl hs).I _ _ _
 exact zT X hs
theorem oB(X:∀ i,HA (x i)){S:Ak}(hs:Fh S):CX S (FB F t x S).2:=by
 unfold FB;dsimp only;cases Ac (t.k=28)&&((x 0).rcv S).2;simp only [AQ];cases Ac (t.k=27)&&((Cx F S t).2&&Ac ((Cx F S t).1.ref=3));exact (cD X hs).I _ _ _;exact CX.refl hs;refine CX.I ?_ _ _ _;unfold Gz;cases Ac ((Aa t 0).k=28);exact CX.refl hs;exact (X 0).N S hs
theorem Xe(X:∀ i,HA (x i)){S:Ak}(hs:Fh S):∀ i,Gt S (Gj x S i).2
 | 0=>(CX.refl hs).nl
 | i+1=>(Xe X hs i).trans ((X i).st _ (Xe X hs i).l)
theorem X6(X:∀ i,HA (x i)){S:Ak}(hs:Fh S):Gt S (OX t x S).2:=Xe X hs _
theorem bA(X:∀ i,HA (x i)){S:Ak}(hs:Fh S):Gt S (Qy t x S).2:=jX (X6 X (S:=El S) hs)
theorem Zx(X:∀ i,HA (x i))(k:Nd){S:Ak}(hs:Fh S):CX S (GH k (x 0) S).2:=by
 unfold GH;cases Ac (k.k=9);exact ((X 0).ex S hs).I _ _ _;exact CX.refl hs
theorem ZT(X:∀ i,HA (x i)){S:Ak}(hs:Fh S):Gt S (Jc t x S).2:=by
 have h1:Gt S ((x 1).H (GH (Aa t 0) (x 0) S).2).2:=Gt.H X (Zx X _ hs).nl 1;unfold Jc;dsimp only;cases Ac ((Aa t 2).k=10);cases Ac ((Aa t 2).k=18);exact h1;exact h1.trans ((X 2).ifs _ h1.l);exact h1.trans ((X 2).H _ h1.l)
theorem Aas(X:∀ i,HA (x i)){S:Ak}(hs:Fh S):CX S (Lf t x S).2:=(CX.ex X ((CX.ex X (CX.refl hs) 0).I _ _ _) 1).I _ _ _
theorem lI(X:∀ i,HA (x i))(f:Bool){S:Ak}(hs:Fh S):Gt S (MY t x f S).2:=by
 have h:Gt (El S) (bif Ac ((Aa t 0).k=9) then (DJ (Aa t 0),AG f t.z 6 (El S)) else (x 0).st (El S)).2:=by
  cases Ac ((Aa t 0).k=9);exact (X 0).st _ hs;exact ((CX.refl (S:=El S) hs).I f t.z 6).nl
 exact jX (h.trans ((X 1).M _ h.l))
theorem Wk(X:∀ i,HA (x i)){S:Ak}(hs:Fh S):∀ i,Gt S (CK t x S i).2.2
 | 0=>(CX.refl hs).nl
 | i+1=>(Wk X hs i).trans ((X i).cas _ _ (Wk X hs i).l)
theorem wN(X:∀ i,HA (x i)){S:Ak}(hs:Fh S):Gt S (H5 F t x S).2:=by
 unfold H5;dsimp only;cases Ac ((Aa t 1).k=9);have h:=(CX.ex X (Wv F (Aa t 0) hs) 1).I (EE (Bx (Aa t 0)).1 ((x 1).ex (DS F (Aa t 0) S)).1.ty) (Aa t 1).z 7;exact h.nl.trans (W7 _ _ _ h.l);exact (Wv F _ hs).nl.trans (W7 _ _ _ (Wv F _ hs).l)
theorem Ael(X:∀ i,HA (x i)){S:Ak}(hs:Fh S):Gt S (L4 t x S).2:=by
 have h:=((X 0).ex S hs).I (E4 ((x 0).ex S).1.ty) (Aa t 0).z 7;exact h.nl.trans (W7 _ _ _ h.l)
theorem xK(X:∀ i,HA (x i)){S:Ak}(hs:Fh S):Gt S (NO t x S).2:=Gt.H X (Zx X _ hs).nl 1
theorem qZ(X:∀ i,HA (x i)){S:Ak}(hs:Fh S):CX S (Io t x S).2:=by
 unfold Io;dsimp only;cases Ac ((t.j.length:Int)=1);exact (CX.refl hs).I _ _ _;exact (CX.ex X ((CX.refl hs).I _ _ _) 0).I _ _ _
theorem lU(X:∀ i,HA (x i)){S:Ak}(hs:Fh S):Gt S (Dy F t x S).2:=by
 unfold Dy;dsimp only;cases Ac (t.k=10);case true=>exact bA X hs
 cases Ac (t.k=18);case true=>exact ZT X hs
 cases Ac (t.k=12);case true=>exact (Aas X hs).nl
 cases Ac (t.k=22);case true=>exact Wk X hs _
 cases Ac (t.k=6);case true=>exact wN X hs
 cases Ac (t.k=11);case true=>exact Ael X hs
 cases Ac (t.k=19);case true=>exact xK X hs
 cases Ac (t.k=20);case true=>exact (qZ X hs).nl
 have h:=(X 0).ex S hs;simp only [AQ,DA];cases Ac (t.k=16);case true=>exact ((CX.ex X (h.I _ _ _) 1).I _ _ _).nl
 cases Ac (t.k=17);case true=>exact (h.I _ _ _).nl
 cases Ac (t.k=21);case true=>exact (h.I _ _ _).nl
 exact h.nl
theorem Aft(X:∀ i,HA (x i)):HA (OY F t x) :=
 ⟨fun S h=>cD X h,fun S h=>ZU X h,fun S h=>oB X h,fun S h=>lU X h,fun S h=>bA X h,fun S h=>ZT X h,fun S h=>X6 X h,fun f S h=>lI X f h⟩
end
theorem uU(F:Nd):∀ t,HA (Af F t):=by
 refine Nd.ap fun t ih=>?_;rw [GL];refine Aft fun i=>?_;by_cases h:i<t.j.length;rw [Dq h,Em h];exact ih _ (AA h);rw [Av];simp only [Cq,Ez];rw [DQ O];exact lP
def Hd(y:Bo):Prop:=y.k=4∨y.name=[]
def EU(S:Ak):Prop:=∀ v∈S.F,Hd v.typ
theorem Lc:Hd Az:=.inr rfl
theorem PG(t:Nd):Hd (Bx t).1:=by
 unfold Bx;cases !Kc t;case true=>exact Lc
 cases Ac (t.k=9);case true=>exact Lc
 cases Ac (t.k=8)
 case true =>
  cases FK t.o;exact Lc;exact .inl rfl
 cases Ac (t.k=7)
 case true =>
  cases ID t.o;exact Lc;exact .inr rfl
 exact Lc
theorem Vg{α β:Type}{f:α→Option β}:∀ (l:List α) (r:List β),HV f l=some r→∀ y∈r,∃ x∈l,f x=some y
 | [],r,h,y,hy=>by injection h with h;subst h;cases hy
 | x::l,r,h,y,hy=>by
  rw [HV] at h
  cases h1:f x with
  | none=>rw [h1] at h;cases h
  | some b =>
   cases h2:HV f l with
   | none=>rw [h1,h2] at h;cases h
   | some r' =>
    rw [h1,h2] at h;injection h with h;subst h;rcases List.mem_cons.1 hy with q|q;subst q;exact ⟨x,Gq,h1⟩;obtain ⟨z,hz,e⟩:=Vg l r' h2 y q;exact ⟨z,Gm _ hz,e⟩
theorem wJ(F:Nd)(s:List UInt8):∀ f∈(F8 F s).1,Hd f.ty:=by
 unfold F8;split;intro f hf;cases hf;split;intro f hf;cases hf;rename_i l hl;intro f hf;obtain ⟨d,_,e⟩:=Vg _ _ hl f hf;unfold G5 at e;cases hq:(!Ac (d.k=3) || !Ac ((d.j.length:Int)=1));rw [hq] at e;cases h2:(Bx (Oe d)).2;rw [h2] at e;cases e;rw [h2] at e;injection e with e;subst e;exact PG _;rw [hq] at e;cases e
theorem pQ(op:List UInt8)(a b:Bo):Hd (Gp op a b).1:=by
 unfold Gp;repeat' (first|exact .inr rfl|(split)|(cases Ep _ op <;> simp only [AL,AQ])|(cases (BL _ _&&BL _ _) <;> simp only [AL,AQ])|(cases Nk a b <;> simp only [AL,AQ]))
theorem aE{q:Bool}{a b:Bo}(ha:Hd a)(hb:Hd b):Hd (bif q then a else b):=by cases q <;> assumption
theorem rP{q:Bool}{a b:List Bo×Bo×Bool}(ha:Hd a.2.1)(hb:Hd b.2.1):Hd (bif q then a else b).2.1:=by cases q <;> assumption
theorem lE(y:Bo)(s:List UInt8):Hd (Ds y s).2.1:=by
 unfold Ds;repeat' (first|exact .inr rfl|refine rP ?_ ?_)
theorem qG(d:Nd):Hd (Kt d):=aE (.inr rfl) (.inr rfl)
theorem YO(F:Nd){S:Ak}(hs:EU S)(n:Nd):Hd (Cx F S n).1.ty:=by
 unfold Cx
 cases h:E9 S.F n.o with
 | some v =>
  have hm:v∈S.F:=E6.1 (L3 h);exact hs v hm
 | none =>
  dsimp only;cases Ac (0≤(A9 F 6 n.o).2);cases Ac (0≤(A9 F 4 n.o).2);exact Lc;exact qG _;exact PG _
structure MT (c:FQ):Prop where
  ex:∀ S,D3 S→EU S→Hd (c.ex S).1.ty
  N:∀ S,D3 S→EU S→Hd (c.N S).1.1.ty
  rcv:∀ S,D3 S→EU S→Hd (c.rcv S).1.ty
  K:∀ S,D3 S→EU S→Hd (c.K S).1.2.2
  st:∀ S,D3 S→EU S→EU (c.st S).2
theorem Afl:MT Ow:=⟨fun S _ _=>Lc,fun S _ _=>Lc,fun S _ _=>Lc,fun S _ _=>Lc,fun S _ h=>h⟩
theorem Cm.can{S T:Ak}(h:Cm S T)(k:EU S):EU T:=fun v hv=>k v (h.F▸hv)
theorem Uc(s:List UInt8){y:Bo}(a:Int){S:Ak}(h:EU S)(hy:Hd y):EU (GQ s y a S):=fun v hv=>by
 have hv:v∈S.F++[⟨s,y,Ea S,S.D,S.w⟩]:=hv;rcases E8.1 hv with q|q;exact h v q;rw [Ip.1 q];exact hy
section
variable {F t:Nd} {x:Nat→FQ}
theorem Va(X:∀ i,MT (x i)){S:Ak}(hs:D3 S)(hc:EU S):Hd (Er F t x S).1.1.ty:=by
 unfold Er;dsimp only;cases Ac (((x 0).ex S).1.ty.k=4);exact Lc;simp only [AL];split;rename_i f hf;exact wJ F _ f (L3 hf);exact Lc
theorem sF(X:∀ i,MT (x i)){S:Ak}(hs:D3 S)(hc:EU S):Hd (G4 F t x S).1.ty:=by
 unfold G4;cases Ac (t.k=27);cases Ac (t.k=28);exact Lc;exact Va X hs hc;exact YO F hc t
theorem rN:Hd (KV t):=aE (.inr rfl) (.inr rfl)
theorem Aaf(X:∀ i,MT (x i)){S:Ak}(hs:D3 S)(hc:EU S):Hd (Fu t x S).1.ty:=by
 unfold Fu;dsimp only;repeat' (first|exact .inr rfl|exact rN|exact pQ _ _ _|(generalize Ac (t.k=_)=q;cases q <;> simp only [AL,AQ]))
theorem Afp(X:∀ i,MT (x i)){S:Ak}(hs:D3 S)(hc:EU S):Hd (Eg F t x S).1.ty:=by
 unfold Eg;cases Ac (t.k=24);case true=>exact .inr rfl
 cases Ac (t.k=25);case true=>exact .inr rfl
 cases Ac (t.k=26);case true=>exact .inr rfl
 cases Ac (t.k=38);case true=>exact .inr rfl
 cases Ac (t.k=30);case true=>exact (X 0).K S hs hc
 cases Ac (t.k=27);case true=>exact YO F hc t
 cases Ac (t.k=28);case true=>exact Va X hs hc
 cases Ac (t.k=34);case true=>exact .inl rfl
 exact Aaf X hs hc
theorem pX(X:∀ i,MT (x i)){S:Ak}(hs:D3 S)(hc:EU S):Hd (FB F t x S).1.2.2:=by
 unfold FB;dsimp only;cases Ac (t.k=28)&&((x 0).rcv S).2;simp only [AQ];cases Ac (t.k=27)&&((Cx F S t).2&&Ac ((Cx F S t).1.ref=3));exact Lc;exact PG _;exact lE _ _
theorem pO(V:∀ i,G6 (x i))(X:∀ i,MT (x i))(HS:∀ S,D3 S→Cm S (Eg F t x S).2){S:Ak}(hs:D3 S)(hc:EU S):EU (Dy F t x S).2:=by
 unfold Dy;dsimp only;cases Ac (t.k=10);case true=>exact (V7 V hs).can hc
 cases Ac (t.k=18);case true=>exact (Vr V hs).can hc
 cases Ac (t.k=12);case true=>exact (gF V hs).can hc
 cases Ac (t.k=22);case true=>exact (RM V hs _).can hc
 cases Ac (t.k=6)
 case true =>
  show EU (H5 F t x S).2;unfold H5;dsimp only;cases Ac ((Aa t 1).k=9);exact Uc _ _ (((Cm.ex V (RE F _ S) hs 1).I _ _ _).can hc) (PG _);exact Uc _ _ ((RE F _ S).can hc) (PG _)
 cases Ac (t.k=11);case true=>exact Uc _ _ ((((V 0).ex S hs).I _ _ _).can hc) ((X 0).ex S hs hc)
 cases Ac (t.k=19);case true=>exact (fJ V hs).can hc
 cases Ac (t.k=20);case true=>exact (dN V hs).can hc
 have h:=(V 0).ex S hs;simp only [AQ,DA];cases Ac (t.k=16);case true=>exact ((Cm.ex V (h.I _ _ _) hs 1).I _ _ _).can hc
 cases Ac (t.k=17);case true=>exact (h.I _ _ _).can hc
 cases Ac (t.k=21);case true=>exact (h.I _ _ _).can hc
 exact h.can hc
theorem Agl(V:∀ i,G6 (x i))(X:∀ i,MT (x i)):MT (OY F t x) :=
 ⟨fun S h k=>Afp X h k,fun S h k=>Va X h k,fun S h k=>sF X h k,fun S h k=>pX X h k,fun S h k=>pO V X (fun S h=>U0 V h) h k⟩
end
theorem Pz(F:Nd):∀ t,MT (Af F t):=by
 refine Nd.ap fun t ih=>?_;rw [GL];refine Agl (fun i=>XB F t i) fun i=>?_;by_cases h:i<t.j.length;rw [Dq h,Em h];exact ih _ (AA h);rw [Av];simp only [Cq,Ez];rw [DQ O];exact Afl
theorem O0{y:Bo}(h:Hd y){k:Int}(hk:k≠4):BL y ⟨k,[]⟩=Ac (y.k=k):=by
 unfold BL;cases hq:Ac (y.k=k);rfl;have:=AH hq;rcases h with h|h;omega;rw [h];rfl
def Bg(S T:Ak):Prop:=S.ee≠0→T.ee=S.ee∧T.ea=S.ea
theorem Bg.refl(S:Ak):Bg S S:=fun _=>⟨rfl,rfl⟩
theorem Bg.trans{S T U:Ak}(h:Bg S T)(k:Bg T U):Bg S U:=fun hn=>by
 obtain ⟨a,b⟩:=h hn;obtain ⟨c,d⟩:=k (by rw [a];exact hn);exact ⟨c.trans a,d.trans b⟩
theorem BW.e{d:Nat}{S T:Ak}(h:BW d S T):Bg S T:=h.ers
theorem Bg.am{S T:Ak}(h:Bg S T)(a e:Int):Bg S (DV a e T):=h.trans (gZ a e T).e
theorem Bg.I{S T:Ak}(h:Bg S T)(b:Bool)(a e:Int):Bg S (AG b a e T):=h.trans (SJ b a e T).e
theorem Bg.be{S T U:Ak}{q:Bool}(h:Bg S T)(k:Bg S U):Bg S (bif q then T else U):=by cases q <;> assumption
theorem Bg.bo{α:Type}{S:Ak}{q:Bool}{a b:α×Ak}(h:Bg S a.2)(k:Bg S b.2):Bg S (bif q then a else b).2:=by cases q <;> assumption
section
variable {F t:Nd} {x:Nat→FQ}
theorem Bg.ex(X:∀ i,GT (x i) (DT t i)){S T:Ak}(h:Bg S T)(i:Nat):Bg S ((x i).ex T).2:=h.trans ((X i).ex T).e
theorem Bg.a0{S T:Ak}(h:Bg S T)(s:List UInt8)(y:Bo)(a:Int):Bg S (GQ s y a T):=h.trans (RR s y a T).e
theorem Vj(X:∀ i,GT (x i) (DT t i))(ps:List Bo)(S:Ak)(i:Nat):∀ k,Bg (Ed t x ps S i).2 (Ed t x ps S (i+k)).2
 | 0=>Bg.refl _
 | k+1=>((Vj X ps S i k).ex X (i+k+1)).I _ _ _
theorem dQ(X:∀ i,GT (x i) (DT t i))(S:Ak)(i:Nat):∀ k,Bg (CK t x S i).2.2 (CK t x S (i+k)).2.2
 | 0=>Bg.refl _
 | k+1=>(dQ X S i k).trans ((X (i+k)).cas _ _).e
end
structure Km (B:Nat→Prop) (w w':Ae):Prop where
  os:w'.os=w.os
  tape:w'.tape=w.tape
  output:w'.output=w.output
  size:w.heap.size≤w'.heap.size
  block:∀ k,k<w.heap.size→¬ B k→w'.heap[k]? = w.heap[k]?
theorem Km.refl(B:Nat→Prop)(w:Ae):Km B w w:=⟨rfl,rfl,rfl,Hv _,fun _ _ _=>rfl⟩
theorem Km.trans{B:Nat→Prop}{a b c:Ae}(h:Km B a b)(k:Km B b c):Km B a c :=
 ⟨k.os.trans h.os,k.tape.trans h.tape,k.output.trans h.output,D4 h.size k.size,fun i hi hn=>(k.block i (LX hi h.size) hn).trans (h.block i hi hn)⟩
theorem Km.Y{B:Nat→Prop}{w w':Ae}(h:G w w'):Km B w w':=⟨h.os,h.tape,h.output,h.size,fun k hk _=>h.block hk⟩
theorem aL{B:Nat→Prop}{w0 w w':Ae}{b:Nat}(h:Km B w0 w)(hg:w.grownBy w' (some b))(hb:B b∨w0.heap.size≤b):Km B w0 w' :=
 ⟨hg.os.trans h.os,hg.tape.trans h.tape,hg.output.trans h.output,D4 h.size hg.size,fun k hk hn=>(hg.block k (LX hk h.size) (fun e=>by
 injection e with e;subst e;rcases hb with hb|hb;exact hn hb;omega)).trans (h.block k hk hn)⟩
structure Ahf (n:Nat) (w w':Ae):Prop where
  below:Below n w w'
  cells:∀ (k:Nat) (o:Obj),w.heap[k]? = some o→o.isCells=true→w'.heap[k]? = some o
theorem Ax.gb{w w':Ae}{B:Nat→Prop}{b:Nat}{e:AD}{l:List Aj}(h:Ax w b e l)(g:Km B w w')(hb:¬ B b):Ax w' b e l:=(g.block b h.lt hb).trans h
section
variable {P:AJ} {n:Nat} {ds:List Deferred} {N T:Fw} {X:List (Nat×Fw)} {Z:List Bf→Fw} {σ:List Ce} {w:Ae}
@[reducible] def Ahp:Fw:=fun _ _ _=>False
@[reducible] def Ahi:List Bf→Fw:=fun _ _ _ _=>False
end
section
variable {P:AJ} {Z:List Bf→Act→Ae→Prop} {ops:List Oper} {cl:List Nat} {lv:List Bool} {W0:Ae} {n:Nat} {K:Act→Ae→Prop} {k:Nat} {rest:List Oper} {σ:List Ce} {w:Ae} {d:Nat} {ty:AD} {pos:String} {after:Array Edge}
end
section
variable {P:AJ} {w w':Ae} {b:Nat} {ks:List Aj}
theorem YA(w:Ae)(o:Obj):G w (w.alloc o):=⟨rfl,rfl,rfl,by simp,fun k hk=>heap_alloc_old w o hk⟩
structure Ahc (P:AJ) (k:AD) {α:Type} [BEq α] [LawfulBEq α] (f:α→Aj):Prop where
  check:∀ (w:Ae) (em:Bool) (a:α),(Instr.checkKey em 10000 k (f a)).run P w = .ok () w
  find:∀ (w:Ae) (a:α) (l:List α) (es:List MapEntry),es.map (·.key)=l.map f→∃ r,(Instr.findKey k (f a) es).run P w = .ok r w∧
    ((r=none∧a∉l)∨∃ j e,r=some (j,e.val)∧es[j]? = some e∧e.key=f a∧a∈l)
  stays:∀ (w:Ae) (a:α),(Instr.keyThatStays (f a) (f a)).run P w = .ok (f a) w
end
def Do(w:Ae)(b:Nat)(es:List (List UInt8×Aj)):Prop:=∃ ms clock,w.heap[b]? = some (.map ms clock)∧ms.toList.map (fun x=>(x.key,x.val))=es.map fun p=>(Cg p.1,p.2)
def GW:List (List UInt8×Aj)→List UInt8→Option Aj
 | [],_=>none
 | (k,v)::es,a=>bif Ac (k=a) then some v else GW es a
section
variable {P:AJ} {w w':Ae} {b:Nat} {es:List (List UInt8×Aj)}
theorem Do.lt(h:Do w b es):b<w.heap.size:=by
 obtain ⟨ms,c,hb,_⟩:=h;exact (GN.1 hb).1
theorem Do.ac(h:Do w b es)(e:w'.heap[b]? = w.heap[b]?):Do w' b es:=by
 obtain ⟨ms,c,hb,hk⟩:=h;exact ⟨ms,c,e.trans hb,hk⟩
theorem Do.A(h:Do w b es)(g:G w w'):Do w' b es:=h.ac (g.block h.lt)
theorem Do.C(h:Do w b es){row:Option Nat}(hg:w.grownBy w' row)(aa:some b≠row):Do w' b es:=h.ac (hg.block b h.lt aa)
theorem Do.ao(h:Do w b es){j:Nat}{e:AD}{l:List Aj}(hB:Ax w j e l):b≠j:=fun q=>by
 subst q;obtain ⟨ms,c,hb,_⟩:=h;unfold Ax at hB;rw [hb] at hB;injection hB with hB;cases hB
theorem Abw(w:Ae):Do (w.alloc (.map #[] 0)) w.heap.size []:=⟨#[],0,(MapKept.heap_alloc w _).1,rfl⟩
theorem Xr(a:List UInt8):∀ (ms:List MapEntry) (es:List (List UInt8×Aj)) (i:Nat),ms.map (fun x=>(x.key,x.val))=es.map (fun p=>(Cg p.1,p.2))→
  (GW es a=none∧Instr.findNow .string (Cg a) ms i=some none)∨∃ v j,GW es a=some v∧Instr.findNow .string (Cg a) ms i=some (some (j,v))
 | [],es,i,h=>by
  cases es with
  | nil=>exact .inl ⟨rfl,rfl⟩
  | cons p es=>cases h
 | m::ms,es,i,h=>by
  cases es with
  | nil=>cases h
  | cons p es =>
   obtain ⟨k,v⟩:=p;rw [List.map_cons,List.map_cons] at h;injection h with h1 h2;injection h1 with h1 h3;have hs:Instr.sameNow .string (Cg a) m.key=some ((⟨a.toArray⟩:ByteArray) == ⟨k.toArray⟩):=by rw [h1];rfl
   have hv:m.val=v:=h3;by_cases hk:k=a;subst hk;refine .inr ⟨v,i,by unfold GW;rw [BU rfl];rfl,?_⟩;rw [(MapKept.bytes_beq _ _).2 rfl] at hs;rw [Instr.findNow,hs,hv]
   have hf:((⟨a.toArray⟩:ByteArray) == ⟨k.toArray⟩)=false:=by
    cases q:((⟨a.toArray⟩:ByteArray) == ⟨k.toArray⟩) with
    | false=>rfl
    | true =>
     have q:=(MapKept.bytes_beq _ _).1 q;injection q with q;exact absurd (by have:=congrArg Array.toList q;simpa using this.symm) hk
   rw [hf] at hs;have e:GW ((k,v)::es) a=GW es a:=by show (bif Ac (k=a) then some v else GW es a)=_;rw [Aq hk];rfl
   rw [e,Instr.findNow,hs];exact Xr a ms es (i+1) h2
theorem eX{k:AD}(hk:P.underlying k=some .string)(em:Bool)(a:List UInt8)(w:Ae):(Instr.checkKey em 10000 k (Cg a)).run P w = .ok () w:=by
 show (Instr.checkKey em (9999+1) k (Cg a)).run P w=_;rw [Instr.checkKey];simp only [Sem.run_bind,run_underlying hk,Result.andThen_ok,Sem.run_pure]
theorem eV{k t e:AD}(hk:P.underlying k=some .string)(ht:P.underlying t=some (.map k e)){z:Aj}(hz:Gh P e=some z)(h:Do w b es)(a:List UInt8)(ok:Bool) :
 (Instr.lookup t (.map (some b)) (Cg a) ok).run P w = .ok (bif ok then .tuple #[(GW es a).getD z,.bool (GW es a).isSome] else (GW es a).getD z) w:=by
 obtain ⟨i,hi,ab⟩:=PC hz;obtain ⟨ms,c,hb,hm⟩:=h;have aa:=eX (P:=P) hk ms.isEmpty a w;rcases Xr a ms.toList es 0 hm with ⟨h1,h2⟩|⟨v,j,h1,h2⟩;cases ok <;> simp [Instr.lookup,run_underlying ht,MapKept.run_getObj_map hb,aa,Instr.findKey,run_underlying hk,h2,zeroValue,typeInfo,hi,ab,h1]
 cases ok <;> simp [Instr.lookup,run_underlying ht,MapKept.run_getObj_map hb,aa,Instr.findKey,run_underlying hk,h2,h1]
theorem oZ{k t e:AD}(hk:P.underlying k=some .string)(ht:P.underlying t=some (.map k e))(h:Do w b es){a:List UInt8}(hn:GW es a=none)(v:Aj) :
 ∃ w',(Instr.mapUpdate t (.map (some b)) (Cg a) v).run P w = .ok () w'∧Do w' b (es++[(a,v)])∧w.grownBy w' (some b)∧w'.heap.size=w.heap.size:=by
 obtain ⟨ms,c,hb,hm⟩:=h;have ab:=eX (P:=P) hk false a w;have aa:=(GN.1 hb).1;rcases Xr a ms.toList es 0 hm with ⟨h1,h2⟩|⟨u,j,h1,h2⟩;refine ⟨{ w with heap:=w.heap.setIfInBounds b (.map (ms.push ⟨Cg a,v,c⟩) (c+1)) },?_,?_,?_,by simp⟩;simp [Instr.mapUpdate,run_underlying ht,MapKept.run_getObj_map hb,ab,Instr.findKey,run_underlying hk,h2,MapKept.run_setObj_map _ hb];refine ⟨_,_,(by rw [LR,CO rfl,CO aa]),?_⟩;rw [Array.toList_push,List.map_append,hm,List.map_append];rfl
 exact ⟨rfl,rfl,rfl,by simp,fun i _ hi=>by
  have hi:b≠i:=fun e=>hi (by rw [e]);show (w.heap.setIfInBounds b _)[i]? = _;rw [LR,CN hi]⟩
 rw [hn] at h1;cases h1
end
section
variable {P:AJ} {Z:List Bf→Act→Ae→Prop} {ops:List Oper} {cl:List Nat} {lv:List Bool} {W0:Ae} {n:Nat} {K:Act→Ae→Prop} {k:Nat} {rest:List Oper} {σ:List Ce} {w:Ae} {d:Nat} {ty:AD} {pos:String} {after:Array Edge} {es:List (List UInt8×Aj)}
theorem XN{c:Prop}{wb:Ae}{t kt e b:Nat}{x y:Bl}{a:List UInt8}{z:Aj}(hk:P.underlying kt=some .string)(ht:P.underlying t=some (.map kt e))(hz:Gh P e=some z)(h:Do wb b es)(hx:BI n σ c x (.map (some b)))(hy:BI n σ c y (Cg a)) :
 Db P n σ c wb (.lookup t x y false) ty ((GW es a).getD z):=.mk fun d pos after gd aa ha hc w1 hg=>by
 have r:=eV hk ht hz (h.A hg) a false;simp [execOp,hx aa ha hc,hy aa ha hc,r]
theorem Zr{c:Prop}{wb:Ae}{t kt e b:Nat}{x y:Bl}{a:List UInt8}{z:Aj}(hk:P.underlying kt=some .string)(ht:P.underlying t=some (.map kt e))(hz:Gh P e=some z)(h:Do wb b es)(hx:BI n σ c x (.map (some b)))(hy:BI n σ c y (Cg a)) :
 Db P n σ c wb (.lookup t x y true) ty (.tuple #[(GW es a).getD z,.bool (GW es a).isSome]):=.mk fun d pos after gd aa ha hc w1 hg=>by
 have r:=eV hk ht hz (h.A hg) a true;simp [execOp,hx aa ha hc,hy aa ha hc,r]
theorem Ph{t kt e b:Nat}{x y z:Bl}{a:List UInt8}{v:Aj}(hb:Nat.beq (Bw cl k) 2=true)(hk:P.underlying kt=some .string)(ht:P.underlying t=some (.map kt e))(hM:Do w b es)(hn:GW es a=none)(hx:BI n σ True x (.map (some b)))(hy:BI n σ True y (Cg a))(hz:BI n σ True z v)
 (h:∀ w1,Do w1 b (es++[(a,v)])→w.grownBy w1 (some b)→w1.heap.size=w.heap.size→BK P Z ops cl lv W0 n K (k+1) rest σ w1) :
 BK P Z ops cl lv W0 n K k (⟨none,.mapUpdate t x y z,ty,pos,after,none⟩::rest) σ w:=by
 obtain ⟨w1,r1,r2,r3,r4⟩:=oZ hk ht hM hn v;refine iA hb (w':=w1) (fun d pos after g aa ha _=>?_) (h w1 r2 r3 r4);simp [execOp,hx aa ha Cc,hy aa ha Cc,hz aa ha Cc,r1]
theorem QI{t:Nat}(hb:(!Nat.beq (Bw cl k) 0 && !Nat.beq (Bw cl k) 3&&Nat.blt d n)=true)
  (h:∀ b w1,b=w.heap.size→G w w1→w1.heap.size=w.heap.size+1→Do w1 b []→BK P Z ops cl lv W0 n K (k+1) rest ((d,True,.map (some b)) :: σ) w1) :
  BK P Z ops cl lv W0 n K k (⟨some d,.makeMap t none,ty,pos,after,none⟩::rest) σ w :=
 Oa hb (w':=w.alloc (.map #[] 0)) (fun d pos after g a ha _=>by simp [execOp,Instr.makeMap]) (fun _=>YA w _) (h _ _ rfl (YA w _) BR (Abw w))
end
def DR(kd:Int)(f:Nat→Nd→Aj):List Nd→Nat→List (List UInt8×Aj)
 | [],_=>[]
 | d::l,k=>bif Ac (d.k=kd) then (d.o,f k d)::DR kd f l (k+1) else DR kd f l k
def Gy(kd:Int)(l:List Nd):Nat:=(l.filter fun d=>Ac (d.k=kd)).length
theorem Pj(kd:Int)(d:Nd)(l:List Nd):Gy kd (d::l)=(bif Ac (d.k=kd) then 1 else 0)+Gy kd l:=by
 unfold Gy;cases h:Ac (d.k=kd);rw [LN (by simp [h])];simp;rw [NR (by simpa using h),Iz];show _=1+_;omega
theorem nF(kd:Int)(l:List Nd)(d:Nd):Gy kd (l++[d])=Gy kd l+(bif Ac (d.k=kd) then 1 else 0):=by
 unfold Gy;rw [List.filter_append,Kv];cases h:Ac (d.k=kd);rw [LN (by simp [h])];rfl;rw [NR (by simpa using h)];rfl
theorem Sp(kd:Int)(f:Nat→Nd→Aj):∀ (l:List Nd) (k:Nat),(DR kd f l k).length=Gy kd l
 | [],k=>rfl
 | d::l,k=>by
  rw [Pj];unfold DR;cases Ac (d.k=kd);rw [AQ,Sp kd f l k];show _=0+_;omega;rw [AL,Iz,Sp kd f l (k+1)];show _=1+_;omega
theorem Xv(kd:Int)(f:Nat→Nd→Aj)(d:Nd):∀ (l:List Nd) (k:Nat),DR kd f (l++[d]) k=DR kd f l k++(bif Ac (d.k=kd) then [(d.o,f (k+Gy kd l) d)] else [])
 | [],k=>by
  show (bif Ac (d.k=kd) then (d.o,f k d)::[] else [])=_;cases Ac (d.k=kd) <;> rfl
 | e::l,k=>by
  rw [Pj];show (bif Ac (e.k=kd) then (e.o,f k e)::DR kd f (l++[d]) (k+1) else DR kd f (l++[d]) k)=(bif Ac (e.k=kd) then (e.o,f k e)::DR kd f l (k+1) else DR kd f l k)++_;rw [Xv kd f d l k,Xv kd f d l (k+1)];cases Ac (e.k=kd);simp only [AQ,Nat.zero_add];simp only [AL,List.cons_append];rw [show k+(1+Gy kd l)=k+1+Gy kd l by omega]
theorem Xf(kd:Int)(s:List UInt8):∀ (l:List Nd) (k:Nat),(GI kd s l k).2 = -1∨(k:Int)≤(GI kd s l k).2
 | [],k=>.inl rfl
 | d::l,k=>by
  unfold GI;cases Ac (d.k=kd);exact Xf kd s l k;cases Ac (d.o=s);rcases Xf kd s l (k+1) with h|h;exact .inl h;exact .inr (by show (k:Int)≤(GI kd s l (k+1)).2;omega);exact .inr (Int.le_refl _)
theorem P5(kd:Int)(f:Nat→Nd→Aj)(s:List UInt8):∀ (l:List Nd) (k:Nat),GW (DR kd f l k) s=bif Ac (0≤(GI kd s l k).2) then some (f (GI kd s l k).2.toNat (GI kd s l k).1) else none
 | [],k=>rfl
 | d::l,k=>by
  unfold DR GI;cases Ac (d.k=kd);exact P5 kd f s l k;show (bif Ac (d.o=s) then some (f k d) else GW (DR kd f l (k+1)) s)=_;cases Ac (d.o=s);exact P5 kd f s l (k+1);show _=bif Ac (0≤(k:Int)) then some (f (k:Int).toNat d) else none;rw [BU (Int.natCast_nonneg k)];rfl
theorem XM{kd:Int}{f:Nat→Nd→Aj}{s:List UInt8}:∀ {l:List Nd} {k:Nat},(∀ d∈l,d.o≠s)→GW (DR kd f l k) s=none
 | [],k,_=>rfl
 | d::l,k,h=>by
  unfold DR;cases Ac (d.k=kd);exact XM fun e he=>h e (Gm _ he);show (bif Ac (d.o=s) then some (f k d) else GW (DR kd f l (k+1)) s)=_;rw [Aq (h d Gq)];exact XM fun e he=>h e (Gm _ he)
def KI(l:List Nd):List (List UInt8×Aj):=l.map fun d=>(d.o,.bool true)
theorem jE(l:List Nd)(s:List UInt8):GW (KI l) s=bif l.any (fun d=>Ac (d.o=s)) then some (.bool true) else none:=by
 induction l with
 | nil=>rfl
 | cons d l ih =>
  show (bif Ac (d.o=s) then some (.bool true) else GW (KI l) s)=_;rw [ih,List.any_cons];cases Ac (d.o=s) <;> rfl
theorem pJ(l:List Nd)(s:List UInt8):(GW (KI l) s).getD (.bool false) = .bool (l.any fun d=>Ac (d.o=s)):=by
 rw [jE];cases l.any fun d=>Ac (d.o=s) <;> rfl
theorem QW(a b:List Dz)(s:List UInt8):E9 (a++b) s=(E9 b s).or (E9 a s):=by
 unfold E9;rw [Kn,List.find?_append]
theorem iN(a:List Dz)(v:Dz)(s:List UInt8):E9 (a++[v]) s=bif Ac (v.name=s) then some v else E9 a s:=by
 rw [QW];unfold E9;show ((bif Ac (v.name=s) then some v else none:Option Dz)).or _=_;cases Ac (v.name=s) <;> rfl
theorem xB{sc:List (List Dz)}{s:List UInt8}{i k:Nat}(hi:i<sc.length)(hk:k<sc[i].length)(h1:E9 (sc.drop (i+1)).flatten s=none)(h2:E9 (sc[i].drop (k+1)) s=none)(h3:sc[i][k].name=s):E9 sc.flatten s=some sc[i][k]:=by
 have e:sc.flatten=(sc.take i).flatten++((sc[i].take k++[sc[i][k]])++sc[i].drop (k+1))++(sc.drop (i+1)).flatten:=by
  conv=>lhs;rw [← NP i sc,IM hi]
  rw [List.flatten_append,List.flatten_cons,IH,← List.take_succ_eq_append_getElem hk,NP,← IH]
 rw [e,QW,h1,GZ,QW,QW,h2,GZ,iN,BU h3];rfl
theorem yA{sc:List (List Dz)}{s:List UInt8}{i k:Nat}(hi:i<sc.length)(hk:k<sc[i].length)(h2:E9 (sc[i].drop (k+1)) s=none)(h3:sc[i][k].name≠s):E9 (sc[i].drop k) s=none:=by
 rw [IM hk,← List.singleton_append,QW,h2,GZ];show E9 ([]++[sc[i][k]]) s=none;rw [iN,Aq h3];rfl
theorem oT{sc:List (List Dz)}{s:List UInt8}{i:Nat}(hi:i<sc.length)(h1:E9 (sc.drop (i+1)).flatten s=none)(h2:E9 sc[i] s=none):E9 (sc.drop i).flatten s=none:=by
 rw [IM hi,List.flatten_cons,QW,h1,GZ,h2]
end Go.Rk
