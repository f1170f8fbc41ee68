/- Merged texts. Conditions: each text's own. -/
import Derived.Test.YtmpfjifhkmdbaaaGreatDoorI02
import Derived.Test.YtmpfjifhkmdbaaaGreatDoorI01
import Derived.MapKept
set_option linter.unusedSimpArgs false
set_option linter.unusedVariables false
set_option maxHeartbeats 16000000
set_option maxRecDepth 100000
open Array renaming getElem?_eq_some_iff→Ava,getElem?_setIfInBounds→Bsa
open Bool renaming and_assoc→Aaa,and_eq_true→Ada,and_eq_true_iff→Aia,false_and→Apa,or_eq_false_iff→Awa,or_false→Axa,eq_iff_iff→Baa,and_true→Bba,and_comm→Bda,and_left_comm→Bna
open Go renaming World→Aa,TypeId→Ba,PanicEntry→Da,Operand→Ea,Program→Fa,Value→Ga
open Go.World renaming block_lt_of_cell?→Ha,cell?_of_block→Ia
open List renaming getElem_mem→Aba,all_eq_true→Aea,getD_eq_getElem?_getD→Afa,getElem_of_mem→Aka,getElem?_eq_none→Ala,all_eq_false→Ama,getElem?_map→Ana,mem_cons_of_mem→Aoa,mem_append→Ara,mem_reverse→Asa,mem_cons_self→Ata,length_take→Aya,range_succ→Bca,getElem?_eq_getElem→Bea,mem_singleton→Bfa,append_assoc→Bga,length_append→Bha,length_cons→Bia,mem_of_find?_eq_some→Bja,drop_eq_getElem_cons→Bka,length_eq_zero_iff→Bla,length_eq_one_iff→Bma,mem_of_mem_take→Boa,length_reverse→Bpa,dropWhile_sublist→Bqa,reverse_append→Bra,filter_cons_of_neg→Bta,filter_cons_of_pos→Bua,take_append_drop→Bva
open Nat renaming zero_le→Aca,le_trans→Aga,beq→Aha,not_lt_zero→Aja,le_refl→Aqa,lt_of_lt_of_le→Aua,mul_le_mul_right→Bwa
open Option renaming none_or→Aza
namespace Go.Proofs
end Go.Proofs
namespace Go.Rk
open Go.Proofs
open Go Go.RowKit
theorem Xvc{w:Aa}{D:Nat→Prop}{t:Nd}{p:Option Addr}{c:Nat}(hk:Kd w D t.kids (.slice p t.kids.length c))(i:Nat):∃ p' c',i<t.kids.length→p=some ⟨pb p,po p,none⟩∧RowAt w (pb p) (po p+i*9) (ndCells (Zb t i) (.slice p' (Zb t i).kids.length c'))∧Kd w D (Zb t i).kids (.slice p' (Zb t i).kids.length c'):=by
 by_cases h:i<t.kids.length;obtain ⟨h1,p',c',h2,h3⟩:=Yq hk h;exact ⟨p',c',fun _=>⟨h1,h2,h3⟩⟩;exact ⟨none,0,fun h'=>absurd h' h⟩
def lenK(t:Nd)(n:Int):Bool:=decide ((t.kids.length:Int)=n)
def fileVarB(k:Nd):Bool:=decide (k.kind=6)&&(!lenK k 2 || !decide ((Zb k 1).kind=9))
def formB(t:Nd):Bool :=
 bif decide (t.kind=1) then !(t.kids.any fileVarB)&&everyB t (memK [2,6,4])
 else bif anyK [2,5] t.kind then everyB t (memK [3])
 else bif decide (t.kind=3) then kidsB t [typK]
 else bif decide (t.kind=4) then kidsB t [memK [5],fun k=>typK k || memK [9] k,memK [10]]
 else bif decide (t.kind=6) then kidsB t [typK,fun k=>expK k || memK [9] k]
 else bif decide (t.kind=10) then everyB t stK
 else bif anyK [11,17,21,28,31,33,35,36,37] t.kind then kidsB t [expK]
 else bif anyK [12,16,29,32] t.kind then kidsB t [expK,expK]
 else bif decide (t.kind=13) then kidsB t [memK [30,33]]
 else bif anyK [14,15] t.kind then kidsB t [memK [30]]
 else bif decide (t.kind=18) then kidsB t [expK,memK [10],memK [10,18,9]]
 else bif decide (t.kind=19) then kidsB t [fun k=>expK k || memK [9] k,memK [10]]
 else bif decide (t.kind=20) then lenK t 0 || kidsB t [expK]
 else bif decide (t.kind=22) then everyB t (memK [23])
 else bif decide (t.kind=23) then (lenK t 2&&commB (Zb t 0))&&memK [10] (Zb t 1).kind
 else bif decide (t.kind=30) then decide ((0:Int)<t.kids.length)&&everyB t expK
 else bif decide (t.kind=24) then lenK t 0&&decide (0≤t.num)
 else bif decide (t.kind=25) then lenK t 0&&(decide (t.num=0) || decide (t.num=1))
 else bif anyK [27,34,26,9,7,8] t.kind then lenK t 0
 else bif decide (t.kind=38) then kidsB t [memK [10]]
 else false
theorem Vtf(t:Nd)(p:Option Addr)(c:Nat)(D:Nat→Prop)(w:Aa)(hk:Kd w D t.kids (.slice p t.kids.length c))(hc:t.kids.length≤1000000)(hcc:∀ i,(Zb t i).kids.length≤1000000):Ret PP 84 #[ndV t (.slice p t.kids.length c)] w fun v w'=>v = .bool (formB t)∧G w w':=by
   have g := G.refl w
   have hc0 := hc
   refine WK 221 [0] Tryz.func84 ?_
   refine BM fun _ _ _ _ g E => ?_
   refine CN fun _ _ _ _ g E => ?_
   refine CL (Zxa [10] _ _ _ _ E.g0.row (by decide)) ?_
   rintro v8 w8 ⟨hA8, g8⟩
   have hq8 := hA8
   obtain ⟨f8, fs8, cs8, rfl, hgo8, hf8⟩ := hq8
   refine ⟨fun _ => g8, ?_⟩
   have g := g.trans g8
   replace E := E.grow g8
   have gm8 := G.refl w8
   refine CN fun _ _ ga _ g E => ?_
   have l9_gm8 := ga.ge gm8
   have gm8 := gm8.trans (ga.g)
   refine CL (Zxa [3] _ _ _ _ E.g0.row (by decide)) ?_
   rintro v10 w10 ⟨hA10, g10⟩
   have hq10 := hA10
   obtain ⟨f10, fs10, cs10, rfl, hgo10, hf10⟩ := hq10
   refine ⟨fun _ => g10, ?_⟩
   have g := g.trans g10
   have gm8 := gm8.trans (g10)
   replace E := E.grow g10
   have gm10 := G.refl w10
   refine IF (fun h1 => ?_) fun h1 => ?_
   · (try simp only [bsimp] at h1)
     refine AU ?_
     refine Vv (fun (i : Nat) u1 => (i ≤ t.kids.length ∧ ∀ j, (h : j < t.kids.length) → j < i → fileVarB t.kids[j] = false) ∧ G w10 u1) [(1, True, _), (16, True, _), (17, True, _)] (fun (i : Nat) => [(18, True, .int .i64 i)]) (fun (i : Nat) => t.kids.length - i) (0) ⟨⟨Aca _, fun j _ hj => absurd hj (Aja j)⟩, G.refl _⟩ (Za J (Za J (Za J (Za J (Zr _))))) ?_
     rintro i u1 ⟨hI1, gl1⟩
     have g := g.trans gl1
     have gm8 := gm8.trans gl1
     have gm10 := gm10.trans gl1
     replace E := E.grow gl1
     refine IF (fun h2 => ?_) fun h2 => ?_
     · replace h2 : i < t.kids.length := by simp only [Wpg] at h2; omega
       obtain ⟨hpe, p2, c2, hcell, hkid⟩ := Yq hk h2
       have hcci := hcc i
       refine Yw (kq (Zj (Yx (Zj (Zl (Zma Zc J J (by omega) hpe (Wm Zf J J (hcell.grow g) (AN fun _ _ ga _ g E => ?_))))))))
       have l6_gm8 := ga.ge gm8
       have l6_gm10 := ga.ge gm10
       have l6_gl1 := ga.ge gl1
       have gm8 := gm8.trans (ga.g)
       have gm10 := gm10.trans (ga.g)
       have gl1 := gl1.trans (ga.g)
       refine AS fun _ ga _ g E => ?_
       first | replace gm8 := Yu gm8 ga (by omega) | clear gm8 | skip
       first | replace gm10 := Yu gm10 ga (by omega) | clear gm10 | skip
       first | replace gl1 := Yu gl1 ga (by omega) | clear gl1 | skip
       refine Ze (kq (Zj (Zl (Xg Xi J (Xl Yf J (E.g0.at_ J) (Zea J J (Zv J (Zk J J J (fun _ => Zi Zh (Zd J)) (Yg J J J (Zq Zg (Zp J id) (fun _ => E.g0.at_ J)) (Zk J J J (fun _ => Ysa Zc (Zp J id)) (Zk J J J (fun _ => Yka (Zp J id) Xa) (Zk J J J (fun _ => Zw (Zp J id)) (Zk J J J (fun _ => Zi Zh (Zd J)) (Yg J J J (Zq Zg (Zp J id) (fun _ => E.g0.at_ J)) (Zk J J J (fun _ => Yv Zc (Zp J id) Xa (fun hc => by have := hc.2; simp only [Bool.not_eq_false', Wpg] at this; omega) (fun hc => (Yq hkid (i := 1) (by have := hc.2; simp only [Bool.not_eq_false', Wpg] at this; omega)).1)) (Zk J J J (fun _ => Zi Xi (Zp J id)) (?_)))))))))))))))))
       refine Yg J J J (Zq Yf (Zp J id) (fun hc => by
 obtain ⟨_,p',c',hcell',_⟩:=Yq hkid (i:=1) (by have:=hc.2;simp only [Bool.not_eq_false',Wpg] at this;omega)
 exact (hcell'.grow g) 0 _ rfl)) (Zk rfl rfl rfl (fun _=>Yka (Zp rfl id) Xa) (Zk rfl rfl rfl (fun _=>Xd (Zp rfl id) (Zp rfl id)) (Zz rfl (fun _=>Yn (Zd rfl) (Zp rfl id)) (Ze (kq (Wz rfl (fun h3=>?_) (fun h3=>?_)))))))
       · replace h3:(fileVarB (Zb t i))=true:=h3
         have hany:t.kids.any fileVarB=true:=List.any_eq_true.2 ⟨_,Aba h2,by rw [← Yz h2];exact h3⟩
         refine RTN ?_
         refine ⟨Wog ?_,g⟩
         unfold formB;rw [h1,hany];rfl
       replace h3:(fileVarB (Zb t i))=false:=h3
       refine AU ?_
       refine SK [18,1,16,17] ?_
       refine Ze (fun a ha=>?_)
       refine ⟨i+1,ha,⟨⟨h2,fun j h hj=>?_⟩,gl1⟩,O⟩
       by_cases e:j=i
       · subst e;rw [← Yz h2];exact h3
       · exact hI1.2 j h O
     replace h2:i=t.kids.length:=by simp only [Wqg] at h2;omega
     have hnone:t.kids.any fileVarB=false:=by
       rw [List.any_eq_false];intro x hx
       obtain ⟨j,hj,rfl⟩:=Aka hx
       rw [hI1.2 j hj O];simp
     refine AU ?_
     refine Xs [0,1,1,1,3] [true,true,true,true,true] [0,0,2,7,15] mix KR ?_
     have g:=gdr g
     have gm8:=gm8.trans (G.drew _)
     have gm10:=gm10.trans (G.drew _)
     have gl1:=gl1.trans (G.drew _)
     replace E:=E.dr
     refine CN fun _ _ ga _ g E=>?_
     have l41_gm8:=ga.ge gm8
     have l41_gm10:=ga.ge gm10
     have l41_gl1:=ga.ge gl1
     refine CL (Zxa [2,6,4] _ _ _ _ E.g0.row Od) ?_
     rintro v42 w42 ⟨hA42,g42⟩
     have hq42:=hA42
     obtain ⟨f42,fs42,cs42,rfl,hgo42,hf42⟩:=hq42
     refine ⟨fun _=>g42,?_⟩
     have g:=g.trans g42
     replace E:=E.grow g42
     have gm42:=G.refl w42
     refine CP (Xvb t _ _ D (memK [2,6,4]) _ _ (hk.grow g) (hA42.grow gm42) hc) (fun w43 g43=>?_)
     have g:=g.trans g43
     replace E:=E.grow g43
     refine RTN ?_
     refine ⟨Wog ?_,g⟩
     unfold formB;rw [h1,hnone];rfl
   refine AU ?_
   refine' OR [1,2,3,4,12] (fun hb4=>?y4) (kq ?n4)
   case y4 =>
    refine AU ?_
    refine SK [44,1,2,3,4,12] ?_
    exact Ze knr
   case n4 =>
    refine IF (fun h5=>?_) fun h5=>?_
    · (try simp only [bsimp] at h5)
      refine AU ?_
      refine CP (Xvb t _ _ D (memK [3]) _ _ (hk.grow g) (hA10.grow gm10) hc) (fun w49 g49=>?_)
      have g:=g.trans g49
      replace E:=E.grow g49
      refine RTN ?_
      refine ⟨Wog ?_,g⟩
      unfold formB;simp only [anyK,h1,h5,Wug,Wtg] <;> rfl
    refine IF (fun h6=>?_) fun h6=>?_
    · (try simp only [bsimp] at h6)
      refine CN fun _ _ ga _ g E=>?_
      have l53_gm8:=ga.ge gm8
      have l53_gm10:=ga.ge gm10
      refine CP (Yba t _ _ D [typK] _ _ _ _ _ (hk.grow g) J E.g0.row (fun i h=>by match i,h with|0,_=>exact Xma Jy Xub _) hc) (fun w54 g54=>?_)
      have g:=g.trans g54
      replace E:=E.grow g54
      refine RTN ?_
      refine ⟨Wog ?_,g⟩
      unfold formB;simp only [anyK,h1,h5,h6,Wug,Wtg] <;> rfl
    refine IF (fun h7=>?_) fun h7=>?_
    · (try simp only [bsimp] at h7)
      refine AU ?_
      refine Xh (rowR none) [0,1,1,1,1,3,1,1,3] [0,0,2,0,14,0,62,127,255] mix KR [0,1,2,3,4,5,6,7,8] J ?_
      have g:=gdr g
      have gm8:=gm8.trans (G.drew _)
      have gm10:=gm10.trans (G.drew _)
      replace E:=E.dr
      refine Yi 0 J J (fun w1 hx=>Zo Zf (Zd J) J (fun _=>(E.g2.keep hx (fun h=>nomatch h)).row)) (Zx 5 J J (fun _=>Zw (Zd J)) (Zpb 1 3 J J ?_ ?_))
      · refine Zn (L':=[2,3,4,6,7,8]) [0,1,1,1,1,3,1,1,3] rfl rfl rfl ?_
        refine CN fun _ _ N58 l58 g E=>?_
        have l58_gm8:=N58.ge gm8
        have l58_gm10:=N58.ge gm10
        have gm8:=gm8.trans (N58.g)
        have gm10:=gm10.trans (N58.g)
        refine Zy ((N58.g).only _) ?_
        refine Zpb 2 3 J J ?_ ?_
        · refine Zn (L':=[3,4,6,7,8]) [0,1,1,1,1,3,1,1,3] rfl rfl rfl ?_
          refine CL (Zxa [5] _ _ _ _ E.g0.row Od) ?_
          rintro v59 w59 ⟨hA59,g59⟩
          have hq59:=hA59
          obtain ⟨f59,fs59,cs59,rfl,hgo59,hf59⟩:=hq59
          refine ⟨fun _=>g59,?_⟩
          have g:=g.trans g59
          have gm8:=gm8.trans (g59)
          have gm10:=gm10.trans (g59)
          replace E:=E.grow g59
          have gm59:=G.refl w59
          refine Zy ((g59).only _) ?_
          refine Zt 3 J J ?_
          refine Zn (L':=[4,6,7,8]) [0,1,1,1,1,3,1,1,3] J J J ?_
          refine CN fun _ _ N60 l60 g E=>?_
          have l60_gm8:=N60.ge gm8
          have l60_gm10:=N60.ge gm10
          have l60_gm59:=N60.ge gm59
          have gm8:=gm8.trans (N60.g)
          have gm10:=gm10.trans (N60.g)
          have gm59:=gm59.trans (N60.g)
          refine Zy ((N60.g).only _) ?_
          refine Zt 4 J J ?_
          refine Zn (L':=[6,7,8]) [0,1,1,1,1,3,1,1,3] J J J ?_
          refine CL (Zcb typK [9] _ _ _ _ _ (Xma Jy Xub _) E.g0.row Od) ?_
          rintro v61 w61 ⟨hA61,g61⟩
          have hq61:=hA61
          obtain ⟨f61,fs61,cs61,rfl,hgo61,hf61⟩:=hq61
          refine ⟨fun _=>g61,?_⟩
          have g:=g.trans g61
          have gm8:=gm8.trans (g61)
          have gm10:=gm10.trans (g61)
          have gm59:=gm59.trans (g61)
          replace E:=E.grow g61
          have gm61:=G.refl w61
          refine Zy ((g61).only _) ?_
          refine Zt 6 J J ?_
          refine Zn (L':=[7,8]) [0,1,1,1,1,3,1,1,3] J J J ?_
          refine CN fun _ _ N63 l63 g E=>?_
          have l63_gm8:=N63.ge gm8
          have l63_gm10:=N63.ge gm10
          have l63_gm59:=N63.ge gm59
          have l63_gm61:=N63.ge gm61
          have gm8:=gm8.trans (N63.g)
          have gm59:=gm59.trans (N63.g)
          have gm61:=gm61.trans (N63.g)
          refine Zy ((N63.g).only _) ?_
          refine Zt 7 J J ?_
          refine Zn (L':=[8]) [0,1,1,1,1,3,1,1,3] J J J ?_
          refine CP (Yba t _ _ D [memK [5],fun k=>typK k || memK [9] k,memK [10]] _ _ _ _ _ (hk.grow g) J E.g0.row (fun i h=>by match i,h with|0,_=>exact hA59.grow gm59|1,_=>exact hA61.grow gm61|2,_=>exact hA8.grow gm8) hc) (fun w64 g64=>?_)
          have g:=g.trans g64
          replace E:=E.grow g64
          refine Zy ((g64).only _) ?_
          refine Zx 8 J J (fun _=>Jc (Zd J)) (TK [2] (Jg (kq (Xo (Wj J J ?_)))))
          refine ⟨Wog ?_,g⟩
          unfold formB;simp only [anyK,h1,h5,h6,h7,Wug,Wtg] <;> rfl
        · refine Zn (L':=[2,4,6,7,8]) [0,1,1,1,1,3,1,1,3] rfl rfl rfl ?_
          refine CN fun _ _ N60 l60 g E=>?_
          have l60_gm8:=N60.ge gm8
          have l60_gm10:=N60.ge gm10
          have gm8:=gm8.trans (N60.g)
          have gm10:=gm10.trans (N60.g)
          refine Zy ((N60.g).only _) ?_
          refine Zt 2 J J ?_
          refine Zn (L':=[4,6,7,8]) [0,1,1,1,1,3,1,1,3] J J J ?_
          refine CL (Zxa [5] _ _ _ _ E.g1.row Od) ?_
          rintro v59 w59 ⟨hA59,g59⟩
          have hq59:=hA59
          obtain ⟨f59,fs59,cs59,rfl,hgo59,hf59⟩:=hq59
          refine ⟨fun _=>g59,?_⟩
          have g:=g.trans g59
          have gm8:=gm8.trans (g59)
          have gm10:=gm10.trans (g59)
          replace E:=E.grow g59
          have gm59:=G.refl w59
          refine Zy ((g59).only _) ?_
          refine Zt 4 J J ?_
          refine Zn (L':=[6,7,8]) [0,1,1,1,1,3,1,1,3] J J J ?_
          refine CL (Zcb typK [9] _ _ _ _ _ (Xma Jy Xub _) E.g0.row Od) ?_
          rintro v61 w61 ⟨hA61,g61⟩
          have hq61:=hA61
          obtain ⟨f61,fs61,cs61,rfl,hgo61,hf61⟩:=hq61
          refine ⟨fun _=>g61,?_⟩
          have g:=g.trans g61
          have gm8:=gm8.trans (g61)
          have gm10:=gm10.trans (g61)
          have gm59:=gm59.trans (g61)
          replace E:=E.grow g61
          have gm61:=G.refl w61
          refine Zy ((g61).only _) ?_
          refine Zt 6 J J ?_
          refine Zn (L':=[7,8]) [0,1,1,1,1,3,1,1,3] J J J ?_
          refine CN fun _ _ N63 l63 g E=>?_
          have l63_gm8:=N63.ge gm8
          have l63_gm10:=N63.ge gm10
          have l63_gm59:=N63.ge gm59
          have l63_gm61:=N63.ge gm61
          have gm8:=gm8.trans (N63.g)
          have gm59:=gm59.trans (N63.g)
          have gm61:=gm61.trans (N63.g)
          refine Zy ((N63.g).only _) ?_
          refine Zt 7 J J ?_
          refine Zn (L':=[8]) [0,1,1,1,1,3,1,1,3] J J J ?_
          refine CP (Yba t _ _ D [memK [5],fun k=>typK k || memK [9] k,memK [10]] _ _ _ _ _ (hk.grow g) J E.g0.row (fun i h=>by match i,h with|0,_=>exact hA59.grow gm59|1,_=>exact hA61.grow gm61|2,_=>exact hA8.grow gm8) hc) (fun w64 g64=>?_)
          have g:=g.trans g64
          replace E:=E.grow g64
          refine Zy ((g64).only _) ?_
          refine Zx 8 J J (fun _=>Jc (Zd J)) (TK [2] (Jg (kq (Xo (Wj J J ?_)))))
          refine ⟨Wog ?_,g⟩
          unfold formB;simp only [anyK,h1,h5,h6,h7,Wug,Wtg] <;> rfl
      · refine Zn (L':=[1,2,4,6,7,8]) [0,1,1,1,1,3,1,1,3] rfl rfl rfl ?_
        refine CN fun _ _ N60 _ g E=>?_
        have l60_gm8:=N60.ge gm8
        have l60_gm10:=N60.ge gm10
        have gm8:=gm8.trans (N60.g)
        have gm10:=gm10.trans (N60.g)
        refine Zy ((N60.g).only _) ?_
        refine Zt 1 J J ?_
        refine Zn (L':=[2,4,6,7,8]) [0,1,1,1,1,3,1,1,3] J J J ?_
        refine CN fun _ _ N58 _ g E=>?_
        have l58_gm8:=N58.ge gm8
        have l58_gm10:=N58.ge gm10
        have gm8:=gm8.trans (N58.g)
        have gm10:=gm10.trans (N58.g)
        refine Zy ((N58.g).only _) ?_
        refine Zt 2 J J ?_
        refine Zn (L':=[4,6,7,8]) [0,1,1,1,1,3,1,1,3] J J J ?_
        refine CL (Zxa [5] _ _ _ _ E.g0.row Od) ?_
        rintro v59 w59 ⟨hA59,g59⟩
        have hq59:=hA59
        obtain ⟨f59,fs59,cs59,rfl,hgo59,hf59⟩:=hq59
        refine ⟨fun _=>g59,?_⟩
        have g:=g.trans g59
        have gm8:=gm8.trans (g59)
        have gm10:=gm10.trans (g59)
        replace E:=E.grow g59
        have gm59:=G.refl w59
        refine Zy ((g59).only _) ?_
        refine Zt 4 J J ?_
        refine Zn (L':=[6,7,8]) [0,1,1,1,1,3,1,1,3] J J J ?_
        refine CL (Zcb typK [9] _ _ _ _ _ (Xma Jy Xub _) E.g1.row Od) ?_
        rintro v61 w61 ⟨hA61,g61⟩
        have hq61:=hA61
        obtain ⟨f61,fs61,cs61,rfl,hgo61,hf61⟩:=hq61
        refine ⟨fun _=>g61,?_⟩
        have g:=g.trans g61
        have gm8:=gm8.trans (g61)
        have gm10:=gm10.trans (g61)
        have gm59:=gm59.trans (g61)
        replace E:=E.grow g61
        have gm61:=G.refl w61
        refine Zy ((g61).only _) ?_
        refine Zt 6 J J ?_
        refine Zn (L':=[7,8]) [0,1,1,1,1,3,1,1,3] J J J ?_
        refine CN fun _ _ N63 _ g E=>?_
        have l63_gm8:=N63.ge gm8
        have l63_gm10:=N63.ge gm10
        have l63_gm59:=N63.ge gm59
        have l63_gm61:=N63.ge gm61
        have gm8:=gm8.trans (N63.g)
        have gm59:=gm59.trans (N63.g)
        have gm61:=gm61.trans (N63.g)
        refine Zy ((N63.g).only _) ?_
        refine Zt 7 J J ?_
        refine Zn (L':=[8]) [0,1,1,1,1,3,1,1,3] J J J ?_
        refine CP (Yba t _ _ D [memK [5],fun k=>typK k || memK [9] k,memK [10]] _ _ _ _ _ (hk.grow g) J E.g0.row (fun i h=>by match i,h with|0,_=>exact hA59.grow gm59|1,_=>exact hA61.grow gm61|2,_=>exact hA8.grow gm8) hc) (fun w64 g64=>?_)
        have g:=g.trans g64
        replace E:=E.grow g64
        refine Zy ((g64).only _) ?_
        refine Zx 8 J J (fun _=>Jc (Zd J)) (TK [2] (Jg (kq (Xo (Wj J J ?_)))))
        refine ⟨Wog ?_,g⟩
        unfold formB;simp only [anyK,h1,h5,h6,h7,Wug,Wtg] <;> rfl
    refine IF (fun h8=>?_) fun h8=>?_
    · (try simp only [bsimp] at h8)
      refine AU ?_
      refine Xs [0,1,1,1,1,3] [true,true,true,true,true,true] [0,0,2,6,15,31] mix KR ?_
      have g:=gdr g
      have gm8:=gm8.trans (G.drew _)
      have gm10:=gm10.trans (G.drew _)
      replace E:=E.dr
      refine CN fun _ _ ga _ g E=>?_
      have l68_gm8:=ga.ge gm8
      have l68_gm10:=ga.ge gm10
      have gm8:=gm8.trans (ga.g)
      have gm10:=gm10.trans (ga.g)
      refine CL (Zcb expK [9] _ _ _ _ _ (Xma Wt Qg _) E.g0.row Od) ?_
      rintro v69 w69 ⟨hA69,g69⟩
      have hq69:=hA69
      obtain ⟨f69,fs69,cs69,rfl,hgo69,hf69⟩:=hq69
      refine ⟨fun _=>g69,?_⟩
      have g:=g.trans g69
      have gm8:=gm8.trans (g69)
      have gm10:=gm10.trans (g69)
      replace E:=E.grow g69
      have gm69:=G.refl w69
      refine CN fun _ _ ga _ g E=>?_
      have l70_gm8:=ga.ge gm8
      have l70_gm10:=ga.ge gm10
      have l70_gm69:=ga.ge gm69
      have gm69:=gm69.trans (ga.g)
      refine CP (Yba t _ _ D [typK,fun k=>expK k || memK [9] k] _ _ _ _ _ (hk.grow g) J E.g0.row (fun i h=>by match i,h with|0,_=>exact Xma Jy Xub _|1,_=>exact hA69.grow gm69) hc) (fun w71 g71=>?_)
      have g:=g.trans g71
      replace E:=E.grow g71
      refine RTN ?_
      refine ⟨Wog ?_,g⟩
      unfold formB;simp only [anyK,h1,h5,h6,h7,h8,Wug,Wtg] <;> rfl
    refine IF (fun h9=>?_) fun h9=>?_
    · (try simp only [bsimp] at h9)
      refine AU ?_
      refine CP (Xvb t _ _ D stK _ _ (hk.grow g) (Xma Vhb Ygd _) hc) (fun w75 g75=>?_)
      have g:=g.trans g75
      replace E:=E.grow g75
      refine RTN ?_
      refine ⟨Wog ?_,g⟩
      unfold formB;simp only [anyK,h1,h5,h6,h7,h8,h9,Wug,Wtg] <;> rfl
    refine AU ?_
    refine' OR [1,2,3,12] (fun hb10=>?y10) (kq ?n10)
    case y10 =>
     refine AU ?_
     refine' OR [1,2,3,12] (fun hb11=>?y11) knr
     case y11 =>
      refine AU ?_
      refine' OR [1,2,3,12] (fun hb12=>?y12) knr
      case y12 =>
       refine AU ?_
       refine' OR [1,2,3,12] (fun hb13=>?y13) knr
       case y13 =>
        refine AU ?_
        refine' OR [1,2,3,12] (fun hb14=>?y14) knr
        case y14 =>
         refine AU ?_
         refine' OR [1,2,3,12] (fun hb15=>?y15) knr
         case y15 =>
          refine AU ?_
          refine' OR [1,2,3,12] (fun hb16=>?y16) knr
          case y16 =>
           refine AU ?_
           refine' OR [1,2,3,12] (fun hb17=>?y17) knr
           case y17 =>
            refine AU ?_
            refine SK [76,1,2,3,12] ?_
            exact Ze knr
    case n10 =>
     refine IF (fun h18=>?_) fun h18=>?_
     · (try simp only [bsimp] at h18)
       refine CN fun _ _ ga _ g E=>?_
       have l87_gm8:=ga.ge gm8
       have l87_gm10:=ga.ge gm10
       refine CP (Yba t _ _ D [expK] _ _ _ _ _ (hk.grow g) J E.g0.row (fun i h=>by match i,h with|0,_=>exact Xma Wt Qg _) hc) (fun w88 g88=>?_)
       have g:=g.trans g88
       replace E:=E.grow g88
       refine RTN ?_
       refine ⟨Wog ?_,g⟩
       unfold formB;simp only [anyK,h1,h5,h6,h7,h8,h9,h18,Wug,Wtg] <;> rfl
     refine AU ?_
     refine' OR [1,2,3,12] (fun hb19=>?y19) (kq ?n19)
     case y19 =>
      refine AU ?_
      refine' OR [1,2,3,12] (fun hb20=>?y20) knr
      case y20 =>
       refine AU ?_
       refine' OR [1,2,3,12] (fun hb21=>?y21) knr
       case y21 =>
        refine AU ?_
        refine SK [89,1,2,3,12] ?_
        exact Ze knr
     case n19 =>
      refine IF (fun h22=>?_) fun h22=>?_
      · (try simp only [bsimp] at h22)
        refine CN fun _ _ ga _ g E=>?_
        have l95_gm8:=ga.ge gm8
        have l95_gm10:=ga.ge gm10
        refine CP (Yba t _ _ D [expK,expK] _ _ _ _ _ (hk.grow g) J E.g0.row (fun i h=>by match i,h with|0,_=>exact Xma Wt Qg _|1,_=>exact Xma Wt Qg _) hc) (fun w96 g96=>?_)
        have g:=g.trans g96
        replace E:=E.grow g96
        refine RTN ?_
        refine ⟨Wog ?_,g⟩
        unfold formB;simp only [anyK,h1,h5,h6,h7,h8,h9,h18,h22,Wug,Wtg] <;> rfl
      refine IF (fun h23=>?_) fun h23=>?_
      · (try simp only [bsimp] at h23)
        refine AU ?_
        refine Xs [0,1,1,1,1,3] [true,true,true,true,true,true] [0,0,2,6,15,31] mix KR ?_
        have g:=gdr g
        have gm8:=gm8.trans (G.drew _)
        have gm10:=gm10.trans (G.drew _)
        replace E:=E.dr
        refine CN fun _ _ ga _ g E=>?_
        have l100_gm8:=ga.ge gm8
        have l100_gm10:=ga.ge gm10
        have gm8:=gm8.trans (ga.g)
        have gm10:=gm10.trans (ga.g)
        refine CL (Zxa [30,33] _ _ _ _ E.g0.row Od) ?_
        rintro v101 w101 ⟨hA101,g101⟩
        have hq101:=hA101
        obtain ⟨f101,fs101,cs101,rfl,hgo101,hf101⟩:=hq101
        refine ⟨fun _=>g101,?_⟩
        have g:=g.trans g101
        have gm8:=gm8.trans (g101)
        have gm10:=gm10.trans (g101)
        replace E:=E.grow g101
        have gm101:=G.refl w101
        refine CN fun _ _ ga _ g E=>?_
        have l102_gm8:=ga.ge gm8
        have l102_gm10:=ga.ge gm10
        have l102_gm101:=ga.ge gm101
        have gm101:=gm101.trans (ga.g)
        refine CP (Yba t _ _ D [memK [30,33]] _ _ _ _ _ (hk.grow g) J E.g0.row (fun i h=>by match i,h with|0,_=>exact hA101.grow gm101) hc) (fun w103 g103=>?_)
        have g:=g.trans g103
        replace E:=E.grow g103
        refine RTN ?_
        refine ⟨Wog ?_,g⟩
        unfold formB;simp only [anyK,h1,h5,h6,h7,h8,h9,h18,h22,h23,Wug,Wtg] <;> rfl
      refine AU ?_
      refine' OR [1,2,3,12] (fun hb24=>?y24) (kq ?n24)
      case y24 =>
       refine AU ?_
       refine SK [104,1,2,3,12] ?_
       exact Ze knr
      case n24 =>
       refine IF (fun h25=>?_) fun h25=>?_
       · (try simp only [bsimp] at h25)
         refine AU ?_
         refine Xs [0,1,1,1,1,3] [true,true,true,true,true,true] [0,0,2,6,15,31] mix KR ?_
         have g:=gdr g
         have gm8:=gm8.trans (G.drew _)
         have gm10:=gm10.trans (G.drew _)
         replace E:=E.dr
         refine CN fun _ _ ga _ g E=>?_
         have l108_gm8:=ga.ge gm8
         have l108_gm10:=ga.ge gm10
         have gm8:=gm8.trans (ga.g)
         have gm10:=gm10.trans (ga.g)
         refine CL (Zxa [30] _ _ _ _ E.g0.row Od) ?_
         rintro v109 w109 ⟨hA109,g109⟩
         have hq109:=hA109
         obtain ⟨f109,fs109,cs109,rfl,hgo109,hf109⟩:=hq109
         refine ⟨fun _=>g109,?_⟩
         have g:=g.trans g109
         have gm8:=gm8.trans (g109)
         have gm10:=gm10.trans (g109)
         replace E:=E.grow g109
         have gm109:=G.refl w109
         refine CN fun _ _ ga _ g E=>?_
         have l110_gm8:=ga.ge gm8
         have l110_gm10:=ga.ge gm10
         have l110_gm109:=ga.ge gm109
         have gm109:=gm109.trans (ga.g)
         refine CP (Yba t _ _ D [memK [30]] _ _ _ _ _ (hk.grow g) J E.g0.row (fun i h=>by match i,h with|0,_=>exact hA109.grow gm109) hc) (fun w111 g111=>?_)
         have g:=g.trans g111
         replace E:=E.grow g111
         refine RTN ?_
         refine ⟨Wog ?_,g⟩
         unfold formB;simp only [anyK,h1,h5,h6,h7,h8,h9,h18,h22,h23,h25,Wug,Wtg] <;> rfl
       refine IF (fun h26=>?_) fun h26=>?_
       · (try simp only [bsimp] at h26)
         refine AU ?_
         refine Xs [0,3,1,1,1,1,3] [true,true,true,true,true,true,true] [0,0,0,4,14,31,63] mix KR ?_
         have g:=gdr g
         have gm8:=gm8.trans (G.drew _)
         have gm10:=gm10.trans (G.drew _)
         replace E:=E.dr
         refine CN fun _ _ ga _ g E=>?_
         have l116_gm8:=ga.ge gm8
         have l116_gm10:=ga.ge gm10
         have gm8:=gm8.trans (ga.g)
         have gm10:=gm10.trans (ga.g)
         refine CL (Zxa [10,18,9] _ _ _ _ E.g0.row Od) ?_
         rintro v117 w117 ⟨hA117,g117⟩
         have hq117:=hA117
         obtain ⟨f117,fs117,cs117,rfl,hgo117,hf117⟩:=hq117
         refine ⟨fun _=>g117,?_⟩
         have g:=g.trans g117
         have gm8:=gm8.trans (g117)
         have gm10:=gm10.trans (g117)
         replace E:=E.grow g117
         have gm117:=G.refl w117
         refine CN fun _ _ ga _ g E=>?_
         have l118_gm8:=ga.ge gm8
         have l118_gm10:=ga.ge gm10
         have l118_gm117:=ga.ge gm117
         have gm8:=gm8.trans (ga.g)
         have gm117:=gm117.trans (ga.g)
         refine CP (Yba t _ _ D [expK,memK [10],memK [10,18,9]] _ _ _ _ _ (hk.grow g) J E.g0.row (fun i h=>by match i,h with|0,_=>exact Xma Wt Qg _|1,_=>exact hA8.grow gm8|2,_=>exact hA117.grow gm117) hc) (fun w119 g119=>?_)
         have g:=g.trans g119
         replace E:=E.grow g119
         refine RTN ?_
         refine ⟨Wog ?_,g⟩
         unfold formB;simp only [anyK,h1,h5,h6,h7,h8,h9,h18,h22,h23,h25,h26,Wug,Wtg] <;> rfl
       refine IF (fun h27=>?_) fun h27=>?_
       · (try simp only [bsimp] at h27)
         refine AU ?_
         refine Xs [0,1,1,3,1,1,3] [true,true,true,false,true,true,true] [0,0,2,0,14,31,63] mix KR ?_
         have g:=gdr g
         have gm8:=gm8.trans (G.drew _)
         have gm10:=gm10.trans (G.drew _)
         replace E:=E.dr
         refine CN fun _ _ ga _ g E=>?_
         have l123_gm8:=ga.ge gm8
         have l123_gm10:=ga.ge gm10
         have gm8:=gm8.trans (ga.g)
         have gm10:=gm10.trans (ga.g)
         refine CL (Zcb expK [9] _ _ _ _ _ (Xma Wt Qg _) E.g0.row Od) ?_
         rintro v124 w124 ⟨hA124,g124⟩
         have hq124:=hA124
         obtain ⟨f124,fs124,cs124,rfl,hgo124,hf124⟩:=hq124
         refine ⟨fun _=>g124,?_⟩
         have g:=g.trans g124
         have gm8:=gm8.trans (g124)
         have gm10:=gm10.trans (g124)
         replace E:=E.grow g124
         have gm124:=G.refl w124
         refine CN fun _ _ ga _ g E=>?_
         have l126_gm8:=ga.ge gm8
         have l126_gm10:=ga.ge gm10
         have l126_gm124:=ga.ge gm124
         have gm8:=gm8.trans (ga.g)
         have gm124:=gm124.trans (ga.g)
         refine CP (Yba t _ _ D [fun k=>expK k || memK [9] k,memK [10]] _ _ _ _ _ (hk.grow g) J E.g0.row (fun i h=>by match i,h with|0,_=>exact hA124.grow gm124|1,_=>exact hA8.grow gm8) hc) (fun w127 g127=>?_)
         have g:=g.trans g127
         replace E:=E.grow g127
         refine RTN ?_
         refine ⟨Wog ?_,g⟩
         unfold formB;simp only [anyK,h1,h5,h6,h7,h8,h9,h18,h22,h23,h25,h26,h27,Wug,Wtg] <;> rfl
       refine IF (fun h28=>?_) fun h28=>?_
       · (try simp only [bsimp] at h28)
         refine AU ?_
         refine Vgc [_] J J J Jb Jxa (Wi Xy (Vj)) J J ?_
         intro b136 w136 g136 hB136
         have g:=g.trans g136
         replace E:=E.grow g136
         refine CG (fun hc=>Yba t _ _ D [expK] _ _ _ _ _ (hk.grow g) J (hB136 hc).row (fun i h=>by match i,h with|0,_=>exact Xma Wt Qg _) hc0) (fun w137 g137=>?_)
         have g:=g.trans g137
         replace E:=E.grow g137
         refine RTN ?_
         refine ⟨Wog ?_,g⟩
         unfold formB;simp only [anyK,h1,h5,h6,h7,h8,h9,h18,h22,h23,h25,h26,h27,h28,Wug,Wtg] <;> rfl
       refine IF (fun h29=>?_) fun h29=>?_
       · (try simp only [bsimp] at h29)
         refine AU ?_
         refine Xs [0,1,1,1,3] [true,true,true,true,true] [0,0,2,7,15] mix KR ?_
         have g:=gdr g
         have gm8:=gm8.trans (G.drew _)
         have gm10:=gm10.trans (G.drew _)
         replace E:=E.dr
         refine CN fun _ _ ga _ g E=>?_
         have l142_gm8:=ga.ge gm8
         have l142_gm10:=ga.ge gm10
         refine CL (Zxa [23] _ _ _ _ E.g0.row Od) ?_
         rintro v143 w143 ⟨hA143,g143⟩
         have hq143:=hA143
         obtain ⟨f143,fs143,cs143,rfl,hgo143,hf143⟩:=hq143
         refine ⟨fun _=>g143,?_⟩
         have g:=g.trans g143
         replace E:=E.grow g143
         have gm143:=G.refl w143
         refine CP (Xvb t _ _ D (memK [23]) _ _ (hk.grow g) (hA143.grow gm143) hc) (fun w144 g144=>?_)
         have g:=g.trans g144
         replace E:=E.grow g144
         refine RTN ?_
         refine ⟨Wog ?_,g⟩
         unfold formB;simp only [anyK,h1,h5,h6,h7,h8,h9,h18,h22,h23,h25,h26,h27,h28,h29,Wug,Wtg] <;> rfl
       refine Zj (Zl (Zea J J (Yr J (Ze (kq (Wz J (fun h30=>?_) (fun h30=>?_)))))))
       · (try simp only [bsimp] at h30)
         refine Zj (Zl (?_))
         obtain ⟨p0,c0,h0x⟩:=Xvc hk 0
         obtain ⟨p1,c1,h1x⟩:=Xvc hk 1
         refine Xg Zh J (Xl Zg J (E.g2.at_ J) (Yha Zc J (Zea J J (Zv J (Zk J J J (fun _=>Zi Zh (Zd J)) (Yg J J J (Zq Zg (Zp J id) (fun _=>E.g2.at_ J)) (Zk J J J (fun _=>Yv Zc (Zp J id) Xa (fun hc=>by have:=Wrg hc.2;omega) (fun hc=>(h0x (by have:=Wrg hc.2;omega)).1)) (Yg J J J (Zo Zf (Zp J id) J (fun hc=>(h0x (by have:=Wrg hc.2;omega)).2.1.grow g)) (Xu J J J (fun _=>(Zu Jpa Xy (Ya (Zp J id) (Yl)) J)) (fun hc=>Vsf (Zb t 0) _ _ D _ ((h0x (by have:=Wrg hc.2;omega)).2.2.grow g) (hcc 0)) (fun w156 g156=>?_))))))))))
         have g:=g.trans g156
         have gm8:=gm8.trans (g156)
         replace E:=E.grow g156
         refine Zz J (fun _=>Yn (Zd J) (Zp J id)) (Zv J (Zk J J J (fun _=>Zw (Zd J)) (Zk J J J (fun _=>Zi Zh (Zd J)) (Yg J J J (Zq Zg (Zp J id) (fun _=>E.g2.at_ J)) (Zk J J J (fun _=>Yv Zc (Zp J id) Xa (fun hc=>by have:=Wrg (Aia.1 hc.2).1;omega) (fun hc=>(h1x (by have:=Wrg (Aia.1 hc.2).1;omega)).1)) (Zk J J J (fun _=>Zi Xi (Zp J id)) (Yg J J J (Zq Yf (Zp J id) (fun hc=>((h1x (by have:=Wrg (Aia.1 hc.2).1;omega)).2.1.grow g) 0 _ J)) (Xu J J J (fun _=>(Zu hgo8 (Zp J id) (Ya (Zp J id) (Yl)) J)) (fun hc=>hf8 _ _ gm8) (fun w165 g165=>?_)))))))))
         have g:=g.trans g165
         replace E:=E.grow g165
         refine RTN ?_
         refine ⟨Wog ?_,g⟩
         unfold formB;simp only [anyK,h1,h5,h6,h7,h8,h9,h18,h22,h23,h25,h26,h27,h28,h29,h30,Wug,Wtg] <;> rfl
       refine IF (fun h31=>?_) fun h31=>?_
       · (try simp only [bsimp] at h31)
         refine AU ?_
         refine Xu J J J (fun _=>(Zu Xic Xy (Ya (Zp J id) (Ya Xa (Ya Xy (Yl)))) J)) (fun hc=>Xvb t _ _ D expK _ _ (hk.grow g) (Xma Wt Qg _) hc0) (fun w175 g175=>?_)
         have g:=g.trans g175
         replace E:=E.grow g175
         refine RTN ?_
         refine ⟨Wog ?_,g⟩
         unfold formB;simp only [anyK,h1,h5,h6,h7,h8,h9,h18,h22,h23,h25,h26,h27,h28,h29,h30,h31,Wug,Wtg] <;> rfl
       refine IF (fun h32=>?_) fun h32=>?_
       · (try simp only [bsimp] at h32)
         refine RTN ?_
         refine ⟨Wog ?_,g⟩
         unfold formB;simp only [anyK,h1,h5,h6,h7,h8,h9,h18,h22,h23,h25,h26,h27,h28,h29,h30,h31,h32,Wug,Wtg] <;> rfl
       refine IF (fun h33=>?_) fun h33=>?_
       · (try simp only [bsimp] at h33)
         refine RTN ?_
         refine ⟨Wog ?_,g⟩
         unfold formB;simp only [anyK,h1,h5,h6,h7,h8,h9,h18,h22,h23,h25,h26,h27,h28,h29,h30,h31,h32,h33,Wug,Wtg] <;> rfl
       refine AU ?_
       refine' OR [1,2,3,12] (fun hb34=>?y34) (kq ?n34)
       case y34 =>
        refine AU ?_
        refine' OR [1,2,3,12] (fun hb35=>?y35) knr
        case y35 =>
         refine AU ?_
         refine' OR [1,2,3,12] (fun hb36=>?y36) knr
         case y36 =>
          refine AU ?_
          refine' OR [1,2,3,12] (fun hb37=>?y37) knr
          case y37 =>
           refine AU ?_
           refine' OR [1,2,3,12] (fun hb38=>?y38) knr
           case y38 =>
            refine AU ?_
            refine SK [204,1,2,3,12] ?_
            exact Ze knr
       case n34 =>
        refine IF (fun h39=>?_) fun h39=>?_
        · (try simp only [bsimp] at h39)
          refine RTN ?_
          refine ⟨Wog ?_,g⟩
          unfold formB;simp only [anyK,h1,h5,h6,h7,h8,h9,h18,h22,h23,h25,h26,h27,h28,h29,h30,h31,h32,h33,h39,Wug,Wtg] <;> rfl
        refine IF (fun h40=>?_) fun h40=>?_
        · (try simp only [bsimp] at h40)
          refine CN fun _ _ ga _ g E=>?_
          have l219_gm8:=ga.ge gm8
          have l219_gm10:=ga.ge gm10
          have gm8:=gm8.trans (ga.g)
          refine CP (Yba t _ _ D [memK [10]] _ _ _ _ _ (hk.grow g) J E.g0.row (fun i h=>by match i,h with|0,_=>exact hA8.grow gm8) hc) (fun w220 g220=>?_)
          have g:=g.trans g220
          replace E:=E.grow g220
          refine RTN ?_
          refine ⟨Wog ?_,g⟩
          unfold formB;simp only [anyK,h1,h5,h6,h7,h8,h9,h18,h22,h23,h25,h26,h27,h28,h29,h30,h31,h32,h33,h39,h40,Wug,Wtg] <;> rfl
        refine RTN ?_
        refine ⟨Wog ?_,g⟩
        unfold formB;simp only [anyK,h1,h5,h6,h7,h8,h9,h18,h22,h23,h25,h26,h27,h28,h29,h30,h31,h32,h33,h39,h40,Wug,Wtg] <;> rfl
def locB(t:Nd):Bool:=textB' t&&formB t
def permF(t:Nd):Bool:=para (fun t l=>locB t&&l.all id) t
theorem Vz(t:Nd):permF t=(locB t&&t.kids.all permF):=by
 rw [permF,Zla,List.all_map];rfl
def maxL(l:List Nat):Nat:=l.foldl max 0
def depthN(t:Nd):Nat:=para (fun _ l=>maxL l+1) t
theorem Ybc(t:Nd):depthN t=maxL (t.kids.map depthN)+1:=Zla _ t
theorem Yhd(l:List Nat)(a d:Nat):l.foldl max a≤d↔a≤d∧∀ x∈l,x≤d:=by
 induction l generalizing a with
 | nil=>simp
 | cons x xs ih=>simp only [List.foldl_cons,ih,List.forall_mem_cons,Nat.max_le,and_assoc]
theorem Xwc(l:List Nat)(d:Nat):maxL l≤d↔∀ x∈l,x≤d:=by
 rw [maxL,Yhd];exact ⟨fun h=>h.2,fun h=>⟨Aca _,h⟩⟩
theorem Quc(t:Nd)(d:Nat):depthN t≤d↔0<d∧∀ k∈t.kids,depthN k≤d-1:=by
 rw [Ybc];constructor;intro h;refine ⟨O,fun k hk=>?_⟩;have:=(Xwc (t.kids.map depthN) (d-1)).1 O;exact this _ (List.mem_map_of_mem hk);rintro ⟨h0,h⟩;have:=(Xwc (t.kids.map depthN) (d-1)).2 (fun x hx=>by obtain ⟨k,hk,rfl⟩:=List.mem_map.1 hx;exact h k hk);omega
theorem Jbd(t:Nd):1≤depthN t:=by rw [Ybc];omega
theorem Yid:∀ t,depthN t≤count t:=by
 refine Nd.ind fun t ih=>?_;rw [Quc];exact ⟨Yza t,fun k hk=>by have:=ih k hk;have:=Xaa hk;omega⟩
def permB(d:Nat)(t:Nd):Bool:=permF t&&decide (depthN t≤d)
theorem Jcd(t:Nd):permB 0 t=false:=by
 have:=Jbd t;rw [permB,Wmg O,Bool.and_false]
theorem Wyd{d:Nat}(h:0<d)(t:Nd):permB d t=((textB' t&&formB t)&&t.kids.all (permB (d-1))):=by
 rw [Baa,permB,Vz,locB];simp only [Ada,Wpg,Quc t d,Aea,permB];constructor;rintro ⟨⟨h1,h2⟩,_,h3⟩;exact ⟨h1,fun k hk=>⟨h2 k hk,h3 k hk⟩⟩;rintro ⟨h1,h2⟩;exact ⟨⟨h1,fun k hk=>(h2 k hk).1⟩,h,fun k hk=>(h2 k hk).2⟩
theorem Qvc{t:Nd}{n:Nat}(h:count t≤n)(i:Nat):(Zb t i).kids.length≤n:=by
 by_cases hi:i<t.kids.length;rw [Yz hi];have:=Xaa (Aba hi);have:=Wn t.kids[i];omega;have:Zb t i=nd0:=by simp only [Zb,Afa];rw [Ala O];rfl
 rw [this];exact Aca _
theorem Yjd:∀ (t:Nd) (v:Ga) (D:Nat→Prop) (d:Nat) (w:Aa),Laid w→10≤w.heap.size→Kd w D t.kids v→count t≤1000000→d≤1000000→Ret PP 50 #[ndV t v,.int .i64 (d:Int)] w fun r w'=>r = .bool (permB d t)∧G w w':=by
 refine Nd.ind fun t ih v D d w hL hb3 hk hcn hd=>?_;have hk0:=hk;obtain ⟨p,c,rfl,hcap,hks⟩:=hk;have g:=G.refl w;have hlen:=Wn t;refine WK 32 [0,1] Tryz.func50 ?_;refine BM fun _ _ _ _ g E=>?_;refine AU ?_;refine CG (fun hc=>Jye t _ _ _ (hL.grow g) (by have:=g.size;omega)) (fun w11 g11=>?_);have g:=g.trans g11;replace E:=E.grow g11;refine AU ?_;refine CG (fun hc=>Vtf t _ _ D _ (hk0.grow g) O (fun i=>Qvc hcn i)) (fun w16 g16=>?_);have g:=g.trans g16;replace E:=E.grow g16;refine IF (fun h1=>?_) fun h1=>?_
 have hN:permB d t=false:=by
  rw [Bool.or_eq_true,Bool.or_eq_true,Wpg,Bool.not_eq_true',Bool.not_eq_true'] at h1;by_cases h0:d=0;rw [h0];exact Jcd t;rw [Wyd O];rcases h1 with (h1|h1)|h1;omega;rw [h1];rfl;rw [h1,Bool.and_false];rfl
 refine RTN ?_;rw [hN];exact ⟨rfl,g⟩
 have hpos:0<d:=by
  rcases Nat.eq_zero_or_pos d with h0|h0;rw [h0] at h1;exact absurd h1 Os;exact h0
 have hloc:(textB' t&&formB t)=true:=by
  rw [Awa,Awa,Bool.not_eq_false',Bool.not_eq_false'] at h1;rw [h1.1.2,h1.2];rfl
 have hN:=Wyd hpos t;rw [hloc,Bool.true_and] at hN;refine Yw (kq (Zj (Zj (Zl (Xg Zh J (Xl Zg J (E.g0.at_ J) (Yha Zc J (Zv J (Ze (kq (Yx (Vv (fun (i:Nat) u1=>(i≤t.kids.length∧∀ j,(h:j<t.kids.length)→j<i→permB (d-1) t.kids[j]=true)∧G w16 u1) [(1,True,_),(20,True,_),(21,True,_)] (fun (i:Nat)=>[(22,True,.int .i64 i)]) (fun (i:Nat)=>t.kids.length-i) (0) ⟨⟨Aca _,fun j _ hj=>absurd hj (Aja j)⟩,G.refl _⟩ (Za J (Za J (Za J (Za J (Zr _))))) ?_))))))))))));rintro i u1 ⟨hI1,gl1⟩;have g:=g.trans gl1;replace E:=E.grow gl1;refine Zj (Zl (Uua J J (Ze (kq (Zj (Wz J (fun h2=>?_) (fun h2=>?_)))))));replace h2:i<t.kids.length:=by simp only [Wpg] at h2;omega
 obtain ⟨b,o,rfl,hD,xs,hR,hX⟩:=hks O;obtain ⟨p',c',hcell,hkid⟩:=Zab hR hX h2;have hck:=Jk h2;refine Yw (kq (Zj (Yx (Zj (Zl (Xeb Zc J J O (Wm Zf J J (hcell.grow g) (AN fun _ _ ga _ g E=>?_))))))));have l6_gl1:=ga.ge gl1;have gl1:=gl1.trans (ga.g);refine AS fun _ ga _ g E=>?_;first|replace gl1:=Yu gl1 ga O|clear gl1|skip
 refine Ze (kq (Zj (Zl (Wm Zf J J E.g0.row (Zv J (Zz J (fun _=>Yge (r:=((d-1:Nat):Int)) (Zd J) Xa (fun hc=>(by rw [Wfc ⟨O,O⟩];omega))) (Wy J (Zu Vgb Xy (aqc J (aqc J aq0)) J) (ih _ (Aba h2) _ _ (d-1) _ (hL.grow g) (by have:=g.size;omega) (hkid.grow g) O O) (fun w29 g29=>?_))))))));have g:=g.trans g29;have gl1:=gl1.trans (g29);replace E:=E.grow g29;refine IF (fun h3=>?_) fun h3=>?_;(try simp only [bsimp] at h3);refine RTN ?_;refine ⟨Wog ?_,g⟩;rw [eq_comm,hN,Ama];exact ⟨_,Aba h2,by simpa using h3⟩;refine AU ?_;refine SK [22,1,20,21] ?_;refine Ze (fun a ha=>?_);refine ⟨i+1,ha,⟨⟨h2,fun j h hj=>?_⟩,gl1⟩,O⟩;by_cases e:j=i;subst e;simpa using h3;exact hI1.2 j h O;refine RTN ?_;refine ⟨Wog ?_,g⟩;rw [eq_comm,hN,Aea];intro x hx;obtain ⟨j,hj,rfl⟩:=Aka hx;exact hI1.2 j hj (by simp only [Wqg] at h2;omega)
def validB(t:Nd):Bool:=decide (t.kind=1)&&permB 50 t
theorem Vve(t:Nd)(v:Ga)(D:Nat→Prop)(w:Aa)(hL:Laid w)(hb3:10≤w.heap.size)(hk:Kd w D t.kids v)(hcn:count t≤1000000):Ret PP 27 #[ndV t v] w fun r w'=>r = .bool (validB t)∧G w w':=by
 have g:=G.refl w;refine WK 10 [0] Tryz.func27 ?_;refine BM fun _ _ _ _ g E=>?_;refine AU ?_;refine CG (fun hc=>Yjd t _ D 50 _ (hL.grow g) (by have:=g.size;omega) (hk.grow g) hcn Od) (fun w8 g8=>?_);have g:=g.trans g8;replace E:=E.grow g8;refine RTN ?_;exact ⟨rfl,g⟩
def exprB(t:Nd):Bool:=expK t.kind&&permF t
def blockB(t:Nd):Bool:=decide (t.kind=10)&&permF t
def stmtB(t:Nd):Bool:=stK t.kind&&permF t
def ifB(t:Nd):Bool:=decide (t.kind=18)&&permF t
def varB(t:Nd):Bool:=decide (t.kind=6)&&permF t
def commF(t:Nd):Bool:=commB t&&permF t
def plainB(t:Nd):Bool:=decide (t.text=[])
def noneB(t:Nd):Bool:=(decide (t.kind=9)&&decide (t.text=[]))&&lenK t 0
def kindB(t:Nd)(k:Int):Bool:=decide (t.kind=k)&&exprB t
theorem Yme{α:Type}{l:List α}(h:l.length=2):∃ a b,l=[a,b]:=by
 match l,h with|[a,b],_=>exact ⟨a,b,rfl⟩
theorem Vwe{α:Type}{l:List α}(h:l.length=3):∃ a b c,l=[a,b,c]:=by
 match l,h with|[a,b,c],_=>exact ⟨a,b,c,rfl⟩
theorem Qk(a k:Int):memK [a] k=decide (k=a):=by simp [memK]
theorem Xwb{t:Nd}(n:Nat)(h:t.kids.length≠n):lenK t (n:Int)=false:=by rw [lenK,Wmg];omega
theorem Xxc{t:Nd}{qs:List (Int→Bool)}(h:t.kids.length≠qs.length):kidsB t qs=false:=by rw [kidsB,Wmg h,Apa]
theorem Jze{t:Nd}{f:Nd→Bool}:(lenK t 0&&t.kids.all f)=lenK t 0:=by
 by_cases h:t.kids.length=0;rw [Bla.1 h,List.all_nil,Bba];rw [show lenK t 0=false from Xwb 0 h];rfl
theorem Jdd{t:Nd}{q:Int→Bool}:(kidsB t [q]&&t.kids.all permF)=(lenK t 1&&(q (Zb t 0).kind&&permF (Zb t 0))):=by
 by_cases h:t.kids.length=1;obtain ⟨a,ha⟩:=Bma.1 h;simp [lenK,kidsB,Zb,ha,Bca];rw [show lenK t 1=false from Xwb 1 h,Xxc h];rfl
theorem Ykd{t:Nd}{q q2:Int→Bool}:(kidsB t [q,q2]&&t.kids.all permF)=(lenK t 2&&((q (Zb t 0).kind&&permF (Zb t 0))&&(q2 (Zb t 1).kind&&permF (Zb t 1)))):=by
 by_cases h:t.kids.length=2;obtain ⟨a,b,ha⟩:=Yme h;simp [lenK,kidsB,Zb,ha,Bca];ac_rfl;rw [show lenK t 2=false from Xwb 2 h,Xxc h];rfl
theorem Jed{t:Nd}{q q2 q3:Int→Bool}:(kidsB t [q,q2,q3]&&t.kids.all permF)=(lenK t 3&&(((q (Zb t 0).kind&&permF (Zb t 0))&&(q2 (Zb t 1).kind&&permF (Zb t 1)))&&(q3 (Zb t 2).kind&&permF (Zb t 2)))):=by
 by_cases h:t.kids.length=3;obtain ⟨a,b,c,ha⟩:=Vwe h;simp [lenK,kidsB,Zb,ha,Bca];ac_rfl;rw [show lenK t 3=false from Xwb 3 h,Xxc h];rfl
theorem all_1{t:Nd}{f:Nd→Bool}:(lenK t 1&&t.kids.all f)=(lenK t 1&&f (Zb t 0)):=by
 by_cases h:t.kids.length=1;obtain ⟨a,ha⟩:=Bma.1 h;simp [lenK,Zb,ha];rw [show lenK t 1=false from Xwb 1 h];rfl
theorem Jpf{t:Nd}{f:Nd→Bool}:(lenK t 2&&t.kids.all f)=(lenK t 2&&(f (Zb t 0)&&f (Zb t 1))):=by
 by_cases h:t.kids.length=2;obtain ⟨a,b,ha⟩:=Yme h;simp [lenK,Zb,ha];rw [show lenK t 2=false from Xwb 2 h];rfl
theorem Zdb{t:Nd}{q:Int→Bool}:(everyB t q&&t.kids.all permF)=t.kids.all fun k=>q k.kind&&permF k:=by
 rw [everyB,Baa];simp only [Ada,Aea];exact ⟨fun h k hk=>⟨h.1 k hk,h.2 k hk⟩,fun h=>⟨fun k hk=>(h k hk).1,fun k hk=>(h k hk).2⟩⟩
theorem Vuf{t:Nd}:(everyB t expK&&t.kids.all permF)=t.kids.all exprB:=Zdb
def Uc(t:Nd):Bool :=
 bif decide (t.kind=24) then (plainB t&&lenK t 0)&&decide (0≤t.num)
 else bif decide (t.kind=25) then (plainB t&&lenK t 0)&&(decide (t.num=0) || decide (t.num=1))
 else bif decide (t.kind=26) then plainB t&&lenK t 0
 else bif anyK [27,34] t.kind then nameB t.text&&lenK t 0
 else bif decide (t.kind=28) then (nameB t.text&&lenK t 1)&&exprB (Zb t 0)
 else bif decide (t.kind=29) then (plainB t&&lenK t 2)&&t.kids.all exprB
 else bif decide (t.kind=30) then (plainB t&&decide (1≤(t.kids.length:Int)))&&t.kids.all exprB
 else bif decide (t.kind=31) then ((decide (t.text=[45]) || decide (t.text=[33]))&&lenK t 1)&&exprB (Zb t 0)
 else bif decide (t.kind=32) then (anyS binOps t.text&&lenK t 2)&&t.kids.all exprB
 else bif anyK [33,35,36,37] t.kind then (plainB t&&lenK t 1)&&exprB (Zb t 0)
 else bif decide (t.kind=38) then (plainB t&&lenK t 1)&&blockB (Zb t 0)
 else false
theorem fl0{t:Nd}{X:Bool}:(X&&lenK t 0)=((X&&lenK t 0)&&t.kids.all permF):=by rw [Aaa,Jze]
theorem fl0'{t:Nd}{X Y:Bool}:((X&&lenK t 0)&&Y)=((X&&(lenK t 0&&Y))&&t.kids.all permF):=by
 rw [show ((X&&(lenK t 0&&Y))&&t.kids.all permF)=((X&&Y)&&(lenK t 0&&t.kids.all permF)) by simp only [Aaa,Bda,Bna],Jze];simp only [Aaa,Bda,Bna]
theorem fl1{t:Nd}{X:Bool}{q:Int→Bool}:((X&&lenK t 1)&&(q (Zb t 0).kind&&permF (Zb t 0)))=((X&&kidsB t [q])&&t.kids.all permF):=by rw [Aaa,Aaa,Jdd]
theorem fl2{t:Nd}{X:Bool}:((X&&lenK t 2)&&t.kids.all exprB)=((X&&kidsB t [expK,expK])&&t.kids.all permF):=by rw [Aaa,Aaa,Ykd,Jpf];rfl
theorem flv{t:Nd}{X Y Z:Bool}(h:Y=Z):((X&&Y)&&t.kids.all exprB)=((X&&(Z&&everyB t expK))&&t.kids.all permF):=by rw [Aaa,Aaa,Aaa,Vuf,h]
theorem Ql(t:Nd):Uc t=exprB t:=by
 rw [exprB,Vz,locB];unfold Uc textB' formB;by_cases h:t.kind=24;rw [h];exact fl0';by_cases h1:t.kind=25;rw [h1];exact fl0';by_cases h2:t.kind=26;rw [h2];exact fl0;by_cases h3:t.kind=27;rw [h3];exact fl0;by_cases h4:t.kind=34;rw [h4];exact fl0;by_cases h5:t.kind=28;rw [h5];exact fl1;by_cases h6:t.kind=29;rw [h6];exact fl2;by_cases h7:t.kind=30;rw [h7];exact flv (by rw [decide_eq_decide];omega);by_cases h8:t.kind=31;rw [h8];exact fl1;by_cases h9:t.kind=32;rw [h9];exact fl2;by_cases h10:t.kind=33;rw [h10];exact fl1;by_cases h11:t.kind=35;rw [h11];exact fl1;by_cases h12:t.kind=36;rw [h12];exact fl1;by_cases h13:t.kind=37;rw [h13];exact fl1;by_cases h14:t.kind=38;rw [h14];refine Eq.trans ?_ (fl1 (X:=plainB t) (q:=memK [10]));rw [Qk];rfl;simp only [expK,anyK,Wmg h,Wmg h1,Wmg h2,Wmg h3,Wmg h4,Wmg h5,Wmg h6,Wmg h7,Wmg h8,Wmg h9,Wmg h10,Wmg h11,Wmg h12,Wmg h13,Wmg h14,Axa,Wtg,Apa]
def Jlb(t:Nd):Bool:=bif !decide (t.kind=10) || !plainB t then false else t.kids.all stmtB
def Yne(t:Nd):Bool:=bif (!decide (t.kind=18) || !plainB t) || !lenK t 3 then false else (exprB (Zb t 0)&&blockB (Zb t 1))&&((blockB (Zb t 2) || ifB (Zb t 2)) || noneB (Zb t 2))
def refVar(t:Nd):Bool:=(((decide (t.kind=6)&&nameB t.text)&&lenK t 2)&&isTypeB (Zb t 0))&&(noneB (Zb t 1) || exprB (Zb t 1))
theorem Ymd(a b p:Bool):((a&&p) || (b&&p))=((b || a)&&p):=by cases a <;> cases b <;> cases p <;> rfl
theorem Zaf(a b c p:Bool):(((a&&p) || (b&&p)) || (c&&p))=(((a || b) || c)&&p):=by cases a <;> cases b <;> cases c <;> cases p <;> rfl
theorem Ynd(a b c:Bool):(bif !a || !b then false else c)=((a&&b)&&c):=by cases a <;> cases b <;> rfl
theorem Vvf(a b c d:Bool):(bif (!a || !b) || !c then false else d)=(((a&&b)&&c)&&d):=by cases a <;> cases b <;> cases c <;> rfl
theorem Qka(t:Nd):noneB t=(decide (t.kind=9)&&permF t):=by
 rw [noneB];by_cases h:t.kind=9;rw [Vz,locB,textB',formB,h,Aaa];exact congrArg (true && ·) fl0;rw [Wmg h];rfl
theorem Ycb(t:Nd):isTypeB t=(typK t.kind&&permF t):=by
 rw [Vz,locB];unfold isTypeB textB' formB;by_cases h:t.kind=8;rw [h];exact fl0;by_cases h1:t.kind=7;rw [h1];exact fl0;rw [Wmg h,Wmg h1,typK,anyK,anyK,Wmg h,Wmg h1];rfl
theorem Xcc(t:Nd):Jlb t=blockB t:=by
 rw [Jlb,blockB,Ynd];by_cases h:t.kind=10
 rw [Vz,locB,textB',formB,h,Aaa];exact congrArg (true && ·) (by
  refine Eq.trans ?_ (Aaa (plainB t) (everyB t stK) _).symm;rw [Zdb];rfl)
 rw [Wmg h];rfl
theorem Wzd(t:Nd):Yne t=ifB t:=by
 rw [Yne,Vvf,show ifB t=(decide (t.kind=18)&&permF t) from rfl];by_cases h:t.kind=18
 rw [Vz,locB,textB',formB,h,Aaa,Aaa];exact congrArg (true && ·) (by
  refine Eq.trans ?_ (Aaa (plainB t) (kidsB t [expK,memK [10],memK [10,18,9]]) _).symm;rw [Jed,Qk,Qka,show memK [10,18,9] (Zb t 2).kind=((decide ((Zb t 2).kind=10) || decide ((Zb t 2).kind=18)) || decide ((Zb t 2).kind=9)) by simp [memK,Bool.or_assoc],← Zaf];rfl)
 rw [Wmg h];rfl
theorem Qwc(t:Nd):refVar t=varB t:=by
 rw [refVar,varB];by_cases h:t.kind=6
 rw [Vz,locB,textB',formB,h,Aaa,Aaa,Aaa];exact congrArg (true && ·) (by
  refine Eq.trans ?_ (Aaa (nameB t.text) (kidsB t [typK,fun k=>expK k || memK [9] k]) _).symm;rw [Ykd,Qk,Qka,Ycb,show exprB (Zb t 1)=(expK (Zb t 1).kind&&permF (Zb t 1)) from rfl,Ymd])
 rw [Wmg h];rfl
def Uja(t:Nd):Bool :=
 bif anyK [16,9] t.kind then stmtB t || noneB t
 else bif decide (t.kind=13) then stmtB t&&decide ((Zb t 0).kind=33)
 else bif decide (t.kind=12) then stmtB t&&decide ((Zb t 1).kind=33)
 else bif decide (t.kind=11) then stmtB t&&decide ((Zb t 0).kind=33)
 else false
theorem Ycc{t:Nd}(h:t.kind=13∨t.kind=11)(hp:permF t=true):t.kids.length=1:=by
 rw [Vz,locB,Ada,Ada] at hp;have hf:=hp.1.2;rcases h with h|h <;> rw [formB,h] at hf
 have:kidsB t [memK [30,33]]=true:=hf;rw [kidsB,Ada,Wpg] at this;exact this.1;have:kidsB t [expK]=true:=hf;rw [kidsB,Ada,Wpg] at this;exact this.1
theorem Uma{t:Nd}(h:t.kind=12∨t.kind=6)(hp:permF t=true):t.kids.length=2:=by
 rw [Vz,locB,Ada,Ada] at hp;have hf:=hp.1.2;rcases h with h|h <;> rw [formB,h] at hf
 have:kidsB t [expK,expK]=true:=hf;rw [kidsB,Ada,Wpg] at this;exact this.1;have:kidsB t [typK,fun k=>expK k || memK [9] k]=true:=hf;rw [kidsB,Ada,Wpg] at this;exact this.1
theorem Yod{a b c:Bool}(h:a=true→b=true):(a&&c)=((b&&c)&&a):=by revert h;cases a <;> cases b <;> cases c <;> simp
theorem Qbb(t:Nd):Uja t=commF t:=by
 rw [Uja,commF,Qka,stmtB];unfold commB;by_cases h:t.kind=16;rw [h];exact (show (permF t || false)=_ from Axa _);by_cases h1:t.kind=9;rw [h1];rfl;by_cases h2:t.kind=13;have hl:permF t=true→decide (((t.kids.length:Int)-1)=0)=true:=fun hp=>by rw [Ycc (.inl h2) hp];rfl
 rw [h2];exact (show _=((decide (((t.kids.length:Int)-1)=0)&&decide ((Zb t 0).kind=33))&&permF t) from Yod hl);by_cases h3:t.kind=12;have hl:permF t=true→decide (((t.kids.length:Int)-1)=1)=true:=fun hp=>by rw [Uma (.inl h3) hp];rfl
 rw [h3];exact (show _=((decide (((t.kids.length:Int)-1)=1)&&decide ((Zb t 1).kind=33))&&permF t) from Yod hl);by_cases h4:t.kind=11;have hl:permF t=true→decide (((t.kids.length:Int)-1)=0)=true:=fun hp=>by rw [Ycc (.inr h4) hp];rfl
 rw [h4];exact (show _=((decide (((t.kids.length:Int)-1)=0)&&decide ((Zb t 0).kind=33))&&permF t) from Yod hl);simp only [anyK,Wmg h,Wmg h1,Wmg h2,Wmg h3,Wmg h4,Axa,Wtg,Apa]
def Zya(t:Nd):Bool:=(((decide (t.kind=23)&&plainB t)&&lenK t 2)&&commF (Zb t 0))&&blockB (Zb t 1)
theorem Zbf(t:Nd):Zya t=(decide (t.kind=23)&&permF t):=by
 rw [Zya];by_cases h:t.kind=23;rw [Vz,locB,textB',formB,h];refine Eq.trans (b:=((plainB t&&((lenK t 2&&commB (Zb t 0))&&memK [10] (Zb t 1).kind))&&t.kids.all permF)) ?_ rfl;rw [Qk,show ((plainB t&&((lenK t 2&&commB (Zb t 0))&&decide ((Zb t 1).kind=10)))&&t.kids.all permF)=((plainB t&&(commB (Zb t 0)&&decide ((Zb t 1).kind=10)))&&(lenK t 2&&t.kids.all permF)) by ac_rfl,Jpf,commF,blockB];show (((plainB t&&lenK t 2)&&_)&&_)=_;ac_rfl;rw [Wmg h];rfl
def refSelect(t:Nd):Bool:=t.kids.all Zya&&plainB t
theorem Jmb{t:Nd}(h:t.kind=22):refSelect t=permF t:=by
 rw [Vz,locB,textB',formB,h];refine Eq.trans (b:=((plainB t&&everyB t (memK [23]))&&t.kids.all permF)) ?_ rfl;rw [Aaa,Zdb,refSelect,Bda];congr 2;funext k;rw [Zbf,Qk]
def refStmt(t:Nd):Bool :=
 bif decide (t.kind=6) then varB t
 else bif decide (t.kind=10) then blockB t
 else bif decide (t.kind=18) then ifB t
 else bif decide (t.kind=22) then permF t
 else bif decide (t.kind=11) then (nameB t.text&&lenK t 1)&&exprB (Zb t 0)
 else bif anyK [12,16] t.kind then (plainB t&&lenK t 2)&&t.kids.all exprB
 else bif decide (t.kind=13) then (plainB t&&lenK t 1)&&(kindB (Zb t 0) 30 || kindB (Zb t 0) 33)
 else bif anyK [14,15] t.kind then (plainB t&&lenK t 1)&&kindB (Zb t 0) 30
 else bif anyK [17,21] t.kind then (plainB t&&lenK t 1)&&exprB (Zb t 0)
 else bif decide (t.kind=20) then (plainB t&&decide ((t.kids.length:Int)≤1))&&t.kids.all exprB
 else bif decide (t.kind=19) then ((plainB t&&lenK t 2)&&(noneB (Zb t 0) || exprB (Zb t 0)))&&blockB (Zb t 1)
 else false
theorem Vhc(t:Nd):kindB t 30=(memK [30] t.kind&&permF t):=by
 rw [kindB,Qk,exprB];by_cases h:t.kind=30;rw [h];rfl;rw [Wmg h];rfl
theorem Zcf(t:Nd):kindB t 33=(decide (t.kind=33)&&permF t):=by
 rw [kindB,exprB];by_cases h:t.kind=33;rw [h];rfl;rw [Wmg h];rfl
theorem Zdf(t:Nd):(kindB t 30 || kindB t 33)=(memK [30,33] t.kind&&permF t):=by
 rw [Vhc,Zcf,Ymd,Qk];congr 1;simp [memK,Bool.or_comm]
theorem Vwf{t:Nd}:(decide ((t.kids.length:Int)≤1)&&t.kids.all exprB)=((lenK t 0 || kidsB t [expK])&&t.kids.all permF):=by
 by_cases h:t.kids.length=0;rw [Bla.1 h,show lenK t 0=true by rw [lenK,Wpg];omega];rfl;by_cases h1:t.kids.length=1;rw [show lenK t 0=false from Xwb 0 h,Bool.false_or,Jdd,show decide ((t.kids.length:Int)≤1)=lenK t 1 by rw [lenK,decide_eq_decide];omega,all_1];rfl;rw [show lenK t 0=false from Xwb 0 h,Xxc h1,Wmg O];rfl
theorem Ug(t:Nd):refStmt t=stmtB t:=by
 rw [stmtB];by_cases h:t.kind=6;rw [refStmt,varB,h];rfl;by_cases h1:t.kind=10;rw [refStmt,blockB,h1];rfl;by_cases h2:t.kind=18;rw [refStmt,ifB,h2];rfl;by_cases h3:t.kind=22;rw [refStmt,h3];rfl;rw [Vz,locB];unfold refStmt textB' formB;by_cases h4:t.kind=11;rw [h4];exact fl1;by_cases h5:t.kind=12;rw [h5];exact fl2;by_cases h6:t.kind=16;rw [h6];exact fl2;by_cases h7:t.kind=13;rw [h7];refine Eq.trans ?_ (fl1 (X:=plainB t) (q:=memK [30,33]));rw [← Zdf];rfl;by_cases h8:t.kind=14;rw [h8];refine Eq.trans ?_ (fl1 (X:=plainB t) (q:=memK [30]));rw [← Vhc];rfl;by_cases h9:t.kind=15;rw [h9];refine Eq.trans ?_ (fl1 (X:=plainB t) (q:=memK [30]));rw [← Vhc];rfl;by_cases h10:t.kind=17;rw [h10];exact fl1;by_cases h11:t.kind=21;rw [h11];exact fl1;by_cases h12:t.kind=20;rw [h12];refine Eq.trans (b:=(plainB t&&decide ((t.kids.length:Int)≤1))&&t.kids.all exprB) rfl ?_;rw [Aaa,Vwf,← Aaa];rfl;by_cases h13:t.kind=19;rw [h13];refine Eq.trans (b:=((plainB t&&lenK t 2)&&(noneB (Zb t 0) || exprB (Zb t 0)))&&blockB (Zb t 1)) J (Eq.trans (b:=((plainB t&&kidsB t [fun k=>expK k || memK [9] k,memK [10]])&&t.kids.all permF)) ?_ J);rw [Aaa (plainB t) (kidsB t _),Ykd,Qk,Qk,Qka,show exprB (Zb t 0)=(expK (Zb t 0).kind&&permF (Zb t 0)) from rfl,Ymd,blockB];ac_rfl;simp only [stK,anyK,Wmg h,Wmg h1,Wmg h2,Wmg h3,Wmg h4,Wmg h5,Wmg h6,Wmg h7,Wmg h8,Wmg h9,Wmg h10,Wmg h11,Wmg h12,Wmg h13,Axa,Wtg,Apa]
structure ROk (t:Nd):Prop where
  ex:∀ (p:Option Addr) (c:Nat) (D:Nat→Prop) (w:Aa),Kd w D t.kids (.slice p t.kids.length c)→Ret PP 97 #[ndV t (.slice p t.kids.length c)] w fun r w'=>r = .bool (exprB t)∧G w w'
  bl:∀ (p:Option Addr) (c:Nat) (D:Nat→Prop) (w:Aa),Kd w D t.kids (.slice p t.kids.length c)→Ret PP 82 #[ndV t (.slice p t.kids.length c)] w fun r w'=>r = .bool (blockB t)∧G w w'
  st:∀ (p:Option Addr) (c:Nat) (D:Nat→Prop) (w:Aa),Kd w D t.kids (.slice p t.kids.length c)→Ret PP 99 #[ndV t (.slice p t.kids.length c)] w fun r w'=>r = .bool (stmtB t)∧G w w'
  fi:∀ (p:Option Addr) (c:Nat) (D:Nat→Prop) (w:Aa),Kd w D t.kids (.slice p t.kids.length c)→Ret PP 129 #[ndV t (.slice p t.kids.length c)] w fun r w'=>r = .bool (ifB t)∧G w w'
  cm:∀ (p:Option Addr) (c:Nat) (D:Nat→Prop) (w:Aa),Kd w D t.kids (.slice p t.kids.length c)→Ret PP 155 #[ndV t (.slice p t.kids.length c)] w fun r w'=>r = .bool (commF t)∧G w w'
def Blw(t:Nd):Prop:=∀ k,count k<count t→ROk k
theorem Blw.kid{t:Nd}(ih:Blw t){i:Nat}(h:i<t.kids.length):ROk (Zb t i):=by
 refine ih _ ?_;rw [Yz h];have:=Xaa (Aba h);omega
theorem Uib{w:Aa}{D:Nat→Prop}{t:Nd}{p:Option Addr}{c:Nat}(hk:Kd w D t.kids (.slice p t.kids.length c))(ih:Blw t)(i:Nat):∃ p' c',i<t.kids.length→p=some ⟨pb p,po p,none⟩∧RowAt w (pb p) (po p+i*9) (ndCells (Zb t i) (.slice p' (Zb t i).kids.length c'))∧Kd w D (Zb t i).kids (.slice p' (Zb t i).kids.length c')∧ROk (Zb t i):=by
 obtain ⟨p',c',h⟩:=Xvc hk i;exact ⟨p',c',fun hi=>⟨(h hi).1,(h hi).2.1,(h hi).2.2,ih.kid hi⟩⟩
theorem Wub(t:Nd)(p:Option Addr)(c:Nat)(w:Aa):Ret PP 80 #[ndV t (.slice p t.kids.length c)] w fun r w'=>r = .bool (noneB t)∧G w w':=by
 have g:=G.refl w;refine WK 17 [0] Tryz.func80 ?_;refine BM fun _ _ _ _ g E=>?_;refine RTN ?_;exact ⟨rfl,g⟩
theorem Xxb(l:List Nd)(p:Option Addr)(c:Nat)(D:Nat→Prop)(w:Aa)(hk:Kd w D l (.slice p l.length c))(hr:∀ k∈l,ROk k)(hln:l.length≤1000000):Ret PP 127 #[.slice p l.length c] w fun r w'=>r = .bool (l.all exprB)∧G w w':=by
 have g:=G.refl w;obtain ⟨p',c',hpe,_,hks⟩:=hk;injection hpe with hpe _ hce;subst hpe hce;refine WK 16 [0] Tryz.func127 ?_;refine AU ?_;refine Vv (fun (i:Nat) u1=>(i≤l.length∧∀ j,(h:j<l.length)→j<i→exprB l[j]=true)∧G w u1) [(0,True,_)] (fun (i:Nat)=>[(3,True,.int .i64 i)]) (fun (i:Nat)=>l.length-i) (0) ⟨⟨Aca _,fun j _ hj=>absurd hj (Aja j)⟩,G.refl _⟩ (Za J (Za J (Zr _))) ?_;rintro i u1 ⟨hI1,gl1⟩;have g:=g.trans gl1;refine Zj (Zj (Zl (Zv J (Zv J (Yha Zc J (Uua J J (Ze (kq (Wz J (fun h1=>?_) (fun h1=>?_))))))))));replace h1:i<l.length:=by simp only [Wpg] at h1;omega
 obtain ⟨b,o,rfl,hD,xs,hR,hX⟩:=hks O;obtain ⟨p',c',hcell,hkid⟩:=Zab hR hX h1;refine Yw (kq (Zj (Yx (Zj (Zl (Zv J (Zv J (Xeb Zc J J O (Wm Zf J J (hcell.grow g) (Wy J (Zu Uq Xy (aqc J aq0) J) ((hr _ (Aba h1)).ex _ _ D _ (hkid.grow g)) (fun w14 g14=>?_)))))))))));have g:=g.trans g14;have gl1:=gl1.trans (g14);refine IF (fun h2=>?_) fun h2=>?_;(try simp only [bsimp] at h2);refine RTN ?_;refine ⟨Wog ?_,g⟩;rw [eq_comm,Ama];exact ⟨_,Aba h1,by simpa using h2⟩;refine AU ?_;refine SK [3,0] ?_;refine Ze (fun a ha=>?_);refine ⟨i+1,ha,⟨⟨h1,fun j h hj=>?_⟩,gl1⟩,O⟩;by_cases e:j=i;subst e;simpa using h2;exact hI1.2 j h O;refine RTN ?_;refine ⟨Wog ?_,g⟩;rw [eq_comm,Aea];intro x hx;obtain ⟨j,hj,rfl⟩:=Aka hx;exact hI1.2 j hj (by simp only [Wqg] at h1;omega)
theorem Ypd(t:Nd)(n:Int)(p:Option Addr)(c:Nat)(D:Nat→Prop)(w:Aa)(hk:Kd w D t.kids (.slice p t.kids.length c))(h:ROk t):Ret PP 131 #[ndV t (.slice p t.kids.length c),.int .i64 n] w fun r w'=>r = .bool (kindB t n)∧G w w':=by
 have g:=G.refl w;refine WK 13 [0,1] Tryz.func131 ?_;refine BM fun _ _ _ _ g E=>?_;refine AU ?_;refine CG (fun hc=>h.ex _ _ D _ (hk.grow g)) (fun w11 g11=>?_);have g:=g.trans g11;replace E:=E.grow g11;refine RTN ?_;exact ⟨rfl,g⟩
theorem Vxe(t:Nd)(p:Option Addr)(c:Nat)(D:Nat→Prop)(w:Aa)(hk:Kd w D t.kids (.slice p t.kids.length c))(ih:Blw t)(hln:t.kids.length≤1000000):Ret PP 97 #[ndV t (.slice p t.kids.length c)] w fun r w'=>r = .bool (exprB t)∧G w w':=by
 rw [← Ql];have g:=G.refl w;obtain ⟨p0,c0,h0x⟩:=Uib hk ih 0;have hr:∀ k∈t.kids,ROk k:=fun k hk=>ih k (Xaa hk);refine WK 165 [0] Tryz.func97 ?_;refine BM fun _ _ _ _ g E=>?_;refine IF (fun h1=>?_) fun h1=>?_;(try simp only [bsimp] at h1);refine RTN ?_;refine ⟨Wog ?_,g⟩;unfold Uc;simp only [anyK,h1,Wug,Wtg] <;> rfl
 refine IF (fun h2=>?_) fun h2=>?_;(try simp only [bsimp] at h2);refine RTN ?_;refine ⟨Wog ?_,g⟩;unfold Uc;simp only [anyK,h1,h2,Wug,Wtg] <;> rfl
 refine IF (fun h3=>?_) fun h3=>?_;(try simp only [bsimp] at h3);refine RTN ?_;refine ⟨Wog ?_,g⟩;unfold Uc;simp only [anyK,h1,h2,h3,Wug,Wtg] <;> rfl
 refine AU ?_;refine' OR [1,2,3,4,12] (fun hb4=>?y4) (kq ?n4)
 case y4 =>
  refine AU ?_;refine SK [49,1,2,3,4,12] ?_;exact Ze knr
 case n4 =>
  refine IF (fun h5=>?_) fun h5=>?_;(try simp only [bsimp] at h5);refine AU ?_;refine CP (Wqa _ _) (fun w54 g54=>?_);have g:=g.trans g54;replace E:=E.grow g54;refine RTN ?_;refine ⟨Wog ?_,g⟩;unfold Uc;simp only [anyK,h1,h2,h3,h5,Wug,Wtg] <;> rfl
  refine IF (fun h6=>?_) fun h6=>?_;(try simp only [bsimp] at h6);refine Zj (Zl (Xg Xe J (Xl Yy J (E.g0.at_ J) (Wy J (Zu Qwa Xy (aqc J aq0) J) (Wqa _ _) (fun w63 g63=>?_)))));have g:=g.trans g63;replace E:=E.grow g63;refine Zv J (Zk J J J (fun _=>Zw (Zd J)) (Zk J J J (fun _=>Zoa (Zp J id) Xa) (Zz J (fun _=>Yn (Zd J) (Zp J id)) (Zv J (Zk J J J (fun _=>Zi Zh (Zd J)) (Yg J J J (Zq Zg (Zp J id) (fun _=>E.g0.at_ J)) (Zk J J J (fun _=>Yv Zc (Zp J id) Xa (fun hc=>by (have hz:=hc.2;first|(unfold lenK at hz;simp at hz;omega)|(simp at hz;omega))) (fun hc=>(h0x (by (have hz:=hc.2;first|(unfold lenK at hz;simp at hz;omega)|(simp at hz;omega)))).1)) (Yg J J J (Zo Zf (Zp J id) J (fun hc=>(h0x (by (have hz:=hc.2;first|(unfold lenK at hz;simp at hz;omega)|(simp at hz;omega)))).2.1.grow g)) (Xu J J J (fun _=>(Zu Uq Xy (Ya (Zp J id) (Yl)) J)) (fun hc=>(h0x (by (have hz:=hc.2;first|(unfold lenK at hz;simp at hz;omega)|(simp at hz;omega)))).2.2.2.ex _ _ D _ ((h0x (by (have hz:=hc.2;first|(unfold lenK at hz;simp at hz;omega)|(simp at hz;omega)))).2.2.1.grow g)) (fun w73 g73=>?_))))))))));have g:=g.trans g73;replace E:=E.grow g73;refine RTN ?_;refine ⟨Wog ?_,g⟩;unfold Uc;simp only [anyK,h1,h2,h3,h5,h6,Wug,Wtg] <;> rfl
  refine IF (fun h7=>?_) fun h7=>?_;(try simp only [bsimp] at h7);refine AU ?_;refine CG (fun hc=>Xxb _ _ _ D _ (hk.grow g) hr hln) (fun w85 g85=>?_);have g:=g.trans g85;replace E:=E.grow g85;refine RTN ?_;refine ⟨Wog ?_,g⟩;unfold Uc;simp only [anyK,h1,h2,h3,h5,h6,h7,Wug,Wtg] <;> rfl
  refine IF (fun h8=>?_) fun h8=>?_;(try simp only [bsimp] at h8);refine Zj (Zl (Zv J (Zv J (Zk J J J (fun _=>Zw (Zd J)) (Zk J J J (fun _=>Qmc (Zp J id) Xa) (Zz J (fun _=>Yn (Zd J) (Zp J id)) (Zv J (Zk J J J (fun _=>Zi Zh (Zd J)) (Yg J J J (Zq Zg (Zp J id) (fun _=>E.g0.at_ J)) (Xu J J J (fun _=>(Zu Yva Xy (Ya (Zp J id) (Yl)) J)) (fun hc=>Xxb _ _ _ D _ (hk.grow g) hr hln) (fun w97 g97=>?_)))))))))));have g:=g.trans g97;replace E:=E.grow g97;refine Zz J (fun _=>Yn (Zd J) (Zp J id)) (Yr J (Ze (kq (Xo (Wj J J ?_)))));refine ⟨Wog ?_,g⟩;unfold Uc;simp only [anyK,h1,h2,h3,h5,h6,h7,h8,Wug,Wtg] <;> rfl
  refine Zj (Zl (Zea J J (Yr J (Ze (kq (Wz J (fun h9=>?_) (fun h9=>?_)))))));(try simp only [bsimp] at h9);refine Zj (Zl (Xg Xe J (Xl Yy J (E.g0.at_ J) (Wgd J J (Zv J (Zk J J J (fun _=>Zi Xe (Zd J)) (Yg J J J (Zq Yy (Zp J id) (fun _=>E.g0.at_ J)) (Zk J J J (fun _=>Ulb (Zp J id) Xa) (Zz J (fun _=>Xd (Zd J) (Zp J id)) (Zv J (Zk J J J (fun _=>Zw (Zd J)) (Zk J J J (fun _=>Zoa (Zp J id) Xa) (Zz J (fun _=>Yn (Zd J) (Zp J id)) (Zv J (Zk J J J (fun _=>Zi Zh (Zd J)) (?_))))))))))))))));refine Yg J J J (Zq Zg (Zp J id) (fun _=>E.g0.at_ J)) (Zk J J J (fun _=>Yv Zc (Zp J id) Xa (fun hc=>by (have hz:=hc.2;first|(unfold lenK at hz;simp at hz;omega)|(simp at hz;omega))) (fun hc=>(h0x (by (have hz:=hc.2;first|(unfold lenK at hz;simp at hz;omega)|(simp at hz;omega)))).1)) (Yg J J J (Zo Zf (Zp J id) J (fun hc=>(h0x (by (have hz:=hc.2;first|(unfold lenK at hz;simp at hz;omega)|(simp at hz;omega)))).2.1.grow g)) (Xu J J J (fun _=>(Zu Uq Xy (Ya (Zp J id) (Yl)) J)) (fun hc=>(h0x (by (have hz:=hc.2;first|(unfold lenK at hz;simp at hz;omega)|(simp at hz;omega)))).2.2.2.ex _ _ D _ ((h0x (by (have hz:=hc.2;first|(unfold lenK at hz;simp at hz;omega)|(simp at hz;omega)))).2.2.1.grow g)) (fun w118 g118=>?_))));have g:=g.trans g118;replace E:=E.grow g118;refine RTN ?_;refine ⟨Wog ?_,g⟩;unfold Uc;simp only [anyK,h1,h2,h3,h5,h6,h7,h8,h9,Wug,Wtg] <;> rfl
  refine IF (fun h10=>?_) fun h10=>?_;(try simp only [bsimp] at h10);refine AU ?_;refine CP (Jue _ _) (fun w124 g124=>?_);have g:=g.trans g124;replace E:=E.grow g124;refine AU ?_;refine CG (fun hc=>Xxb _ _ _ D _ (hk.grow g) hr hln) (fun w132 g132=>?_);have g:=g.trans g132;replace E:=E.grow g132;refine RTN ?_;refine ⟨Wog ?_,g⟩;unfold Uc;simp only [anyK,h1,h2,h3,h5,h6,h7,h8,h9,h10,Wug,Wtg] <;> rfl
  refine AU ?_;refine' OR [1,2,3,4,12] (fun hb11=>?y11) (kq ?n11)
  case y11 =>
   refine AU ?_;refine' OR [1,2,3,4,12] (fun hb12=>?y12) knr
   case y12 =>
    refine AU ?_;refine' OR [1,2,3,4,12] (fun hb13=>?y13) knr
    case y13 =>
     refine AU ?_;refine SK [134,1,2,3,4,12] ?_;exact Ze knr
  case n11 =>
   refine Wz J (fun h14=>?_) (fun h14=>?_);(try simp only [bsimp] at h14);refine Zj (Zl (Zv J (Zv J (Zk J J J (fun _=>Zw (Zd J)) (Zk J J J (fun _=>Zoa (Zp J id) Xa) (Zz J (fun _=>Yn (Zd J) (Zp J id)) (Zv J (Zk J J J (fun _=>Zi Zh (Zd J)) (Yg J J J (Zq Zg (Zp J id) (fun _=>E.g0.at_ J)) (Zk J J J (fun _=>Yv Zc (Zp J id) Xa (fun hc=>by (have hz:=hc.2;first|(unfold lenK at hz;simp at hz;omega)|(simp at hz;omega))) (fun hc=>(h0x (by (have hz:=hc.2;first|(unfold lenK at hz;simp at hz;omega)|(simp at hz;omega)))).1)) (Yg J J J (Zo Zf (Zp J id) J (fun hc=>(h0x (by (have hz:=hc.2;first|(unfold lenK at hz;simp at hz;omega)|(simp at hz;omega)))).2.1.grow g)) (Xu J J J (fun _=>(Zu Uq Xy (Ya (Zp J id) (Yl)) J)) (fun hc=>(h0x (by (have hz:=hc.2;first|(unfold lenK at hz;simp at hz;omega)|(simp at hz;omega)))).2.2.2.ex _ _ D _ ((h0x (by (have hz:=hc.2;first|(unfold lenK at hz;simp at hz;omega)|(simp at hz;omega)))).2.2.1.grow g)) (fun w149 g149=>?_)))))))))))));have g:=g.trans g149;replace E:=E.grow g149;refine RTN ?_;refine ⟨Wog ?_,g⟩;unfold Uc;simp only [anyK,h1,h2,h3,h5,h6,h7,h8,h9,h10,h14,Wug,Wtg] <;> rfl
   refine Zj (Zl (Zea J J (Yr J (Ze (kq (Wz J (fun h15=>?_) (fun h15=>?_)))))));(try simp only [bsimp] at h15);refine Zj (Zl (Zv J (Zv J (Zk J J J (fun _=>Zw (Zd J)) (Zk J J J (fun _=>Zoa (Zp J id) Xa) (Zz J (fun _=>Yn (Zd J) (Zp J id)) (Zv J (Zk J J J (fun _=>Zi Zh (Zd J)) (Yg J J J (Zq Zg (Zp J id) (fun _=>E.g0.at_ J)) (Zk J J J (fun _=>Yv Zc (Zp J id) Xa (fun hc=>by (have hz:=hc.2;first|(unfold lenK at hz;simp at hz;omega)|(simp at hz;omega))) (fun hc=>(h0x (by (have hz:=hc.2;first|(unfold lenK at hz;simp at hz;omega)|(simp at hz;omega)))).1)) (Yg J J J (Zo Zf (Zp J id) J (fun hc=>(h0x (by (have hz:=hc.2;first|(unfold lenK at hz;simp at hz;omega)|(simp at hz;omega)))).2.1.grow g)) (Xu J J J (fun _=>(Zu Jh Xy (Ya (Zp J id) (Yl)) J)) (fun hc=>(h0x (by (have hz:=hc.2;first|(unfold lenK at hz;simp at hz;omega)|(simp at hz;omega)))).2.2.2.bl _ _ D _ ((h0x (by (have hz:=hc.2;first|(unfold lenK at hz;simp at hz;omega)|(simp at hz;omega)))).2.2.1.grow g)) (fun w163 g163=>?_)))))))))))));have g:=g.trans g163;replace E:=E.grow g163;refine RTN ?_;refine ⟨Wog ?_,g⟩;unfold Uc;simp only [anyK,h1,h2,h3,h5,h6,h7,h8,h9,h10,h14,h15,Wug,Wtg] <;> rfl
   refine RTN ?_;refine ⟨Wog ?_,g⟩;unfold Uc;simp only [anyK,h1,h2,h3,h5,h6,h7,h8,h9,h10,h14,h15,Wug,Wtg] <;> rfl
theorem Vic(t:Nd)(p:Option Addr)(c:Nat)(D:Nat→Prop)(w:Aa)(hk:Kd w D t.kids (.slice p t.kids.length c))(ih:Blw t)(hln:t.kids.length≤1000000):Ret PP 82 #[ndV t (.slice p t.kids.length c)] w fun r w'=>r = .bool (blockB t)∧G w w':=by
 rw [← Xcc,Jlb];have g:=G.refl w;refine WK 26 [0] Tryz.func82 ?_;refine BM fun _ w1 _ _ g E=>?_;refine IF (fun h1=>?_) fun h1=>?_;replace h1:(!decide (t.kind=10) || !plainB t)=true:=h1;refine RTN ?_;refine ⟨Wog ?_,g⟩;rw [h1];rfl;replace h1:(!decide (t.kind=10) || !plainB t)=false:=h1;refine AU ?_;refine Vv (fun (i:Nat) u1=>(i≤t.kids.length∧∀ j,(h:j<t.kids.length)→j<i→stmtB t.kids[j]=true)∧G w1 u1) [(1,True,_)] (fun (i:Nat)=>[(3,True,.int .i64 i)]) (fun (i:Nat)=>t.kids.length-i) (0) ⟨⟨Aca _,fun j _ hj=>absurd hj (Aja j)⟩,G.refl _⟩ (Za J (Za J (Zr _))) ?_;rintro i u1 ⟨hI1,gl1⟩;have g:=g.trans gl1;replace E:=E.grow gl1;refine IF (fun h2=>?_) fun h2=>?_;replace h2:i<t.kids.length:=by simp only [Wpg] at h2;omega
 obtain ⟨hpe,p2,c2,hcell,hkid⟩:=Yq hk h2;have hr:=ih.kid h2;refine AU ?_;refine CP (hr.st _ _ D _ (hkid.grow g)) (fun w24 g24=>?_);have g:=g.trans g24;have gl1:=gl1.trans (g24);replace E:=E.grow g24;refine IF (fun h3=>?_) fun h3=>?_;(try simp only [bsimp] at h3);refine RTN ?_;refine ⟨Wog ?_,g⟩;rw [h1,Wtg,eq_comm,Ama];exact ⟨_,Aba h2,by rw [← Yz h2];simpa using h3⟩;refine AU ?_;refine SK [3,1] ?_;refine Ze (fun a ha=>?_);refine ⟨i+1,ha,⟨⟨h2,fun j h hj=>?_⟩,gl1⟩,O⟩;by_cases e:j=i;subst e;rw [← Yz h2];simpa using h3;exact hI1.2 j h O;refine RTN ?_;refine ⟨Wog ?_,g⟩;rw [h1,Wtg,eq_comm,Aea];intro x hx;obtain ⟨j,hj,rfl⟩:=Aka hx;exact hI1.2 j hj (by simp only [Wqg] at h2;omega)
theorem Yoe(t:Nd)(p:Option Addr)(c:Nat)(D:Nat→Prop)(w:Aa)(hk:Kd w D t.kids (.slice p t.kids.length c))(ih:Blw t):Ret PP 129 #[ndV t (.slice p t.kids.length c)] w fun r w'=>r = .bool (ifB t)∧G w w':=by
 rw [← Wzd,Yne];have g:=G.refl w;refine Vo (m:=46) Tryz.func129 J J [(0,True,_)] (Za J (Zr _)) ?_;refine Zj (Zl (BM fun _ _ _ _ g E=>?_));refine Yr J (Ze (kq (Zj (Zj (Zl (Xg Xi J (Xl Yf J (E.g0.at_ J) (Qld J J (Zv J (Zk J J J (fun _=>Zi Xe (Zd J)) (Yg J J J (Zq Yy (Zp J id) (fun _=>E.g0.at_ J)) (Zk J J J (fun _=>Wgc (Zp J id) Xa) (Zz J (fun _=>Xd (Zd J) (Zp J id)) (Zv J (Zk J J J (fun _=>Zi Zh (Zd J)) (Yg J J J (Zq Zg (Zp J id) (fun _=>E.g0.at_ J)) (?_)))))))))))))))));refine Zk J J J (fun _=>Ysa Zc (Zp J id)) (Zk J J J (fun _=>Yka (Zp J id) Xa) (Zz J (fun _=>Xd (Zd J) (Zp J id)) (Ze (kq (Wz J (fun h1=>?_) (fun h1=>?_))))));replace h1:((!decide (t.kind=18) || !plainB t) || !lenK t 3)=true:=h1;refine Zj (Zl (Yr J (Ze (kq (Xo (Wj J J ?_))))));refine ⟨Wog ?_,g⟩;rw [h1];rfl;replace h1:((!decide (t.kind=18) || !plainB t) || !lenK t 3)=false:=h1;have hl3:t.kids.length=3:=by simp only [lenK,Awa,Bool.not_eq_false',Wpg] at h1;omega
 obtain ⟨hpe,p0,c0,hcell0,hkid0⟩:=Yq hk (i:=0) O;obtain ⟨_,p1,c1,hcell1,hkid1⟩:=Yq hk (i:=1) O;obtain ⟨_,p2,c2,hcell2,hkid2⟩:=Yq hk (i:=2) O;have hr0:=ih.kid (i:=0) O;have hr1:=ih.kid (i:=1) O;have hr2:=ih.kid (i:=2) O;refine Yw (kq (Zj (Zl (Xg Zh J (Xl Zg J (E.g0.at_ J) (Zma Zc J J O hpe (Wm Zf J J (hcell2.grow g) (AN fun _ _ _ _ g E=>?_))))))));refine AS fun _ _ _ g E=>?_;refine Ze (kq (Zj (Zl (Xg Zh J (Xl Zg J (E.g1.at_ J) (Zma Zc J J O hpe (Wm Zf J J (hcell0.grow g) (Wy J (Zu Uq Xy (aqc J aq0) J) (hr0.ex _ _ D _ (hkid0.grow g)) (fun w26 g26=>?_)))))))));have g:=g.trans g26;replace E:=E.grow g26;refine Zv J (Zk J J J (fun _=>Zi Zh (Zd J)) (Yg J J J (Zq Zg (Zp J id) (fun _=>E.g1.at_ J)) (Zk J J J (fun _=>Yv Zc (Zp J id) Xa (fun _=>O) (fun _=>hpe)) (Yg J J J (Zo Zf (Zp J id) J (fun _=>hcell1.grow g)) (Xu J J J (fun _=>(Zu Jh Xy (Ya (Zp J id) (Yl)) J)) (fun hc=>hr1.bl _ _ D _ (hkid1.grow g)) (fun w32 g32=>?_))))));have g:=g.trans g32;replace E:=E.grow g32;refine AU ?_;refine CG (fun hc=>hr2.bl _ _ D _ (hkid2.grow g)) (fun w36 g36=>?_);have g:=g.trans g36;replace E:=E.grow g36;refine AU ?_;refine CG (fun hc=>hr2.fi _ _ D _ (hkid2.grow g)) (fun w39 g39=>?_);have g:=g.trans g39;replace E:=E.grow g39;refine AU ?_;refine CG (fun hc=>Wub _ _ _ _) (fun w43 g43=>?_);have g:=g.trans g43;replace E:=E.grow g43;refine RTN ?_;refine ⟨Wog ?_,g⟩;rw [h1];rfl
theorem Vad(t:Nd)(p:Option Addr)(c:Nat)(D:Nat→Prop)(w:Aa)(hk:Kd w D t.kids (.slice p t.kids.length c))(ih:Blw t):Ret PP 79 #[ndV t (.slice p t.kids.length c)] w fun r w'=>r = .bool (varB t)∧G w w':=by
 rw [← Qwc,refVar];have g:=G.refl w;obtain ⟨p0,c0,h0x⟩:=Uib hk ih 0;obtain ⟨p1,c1,h1x⟩:=Uib hk ih 1;refine WK 38 [0] Tryz.func79 ?_;refine BM fun _ _ _ _ g E=>?_;refine AU ?_;refine CG (fun hc=>Wqa _ _) (fun w9 g9=>?_);have g:=g.trans g9;replace E:=E.grow g9;refine AU ?_;refine Zk J J J (fun _=>Yv Zc (Zp J id) Xa (fun hc=>by (have hz:=hc.2;first|(unfold lenK at hz;simp at hz;omega)|(simp at hz;omega))) (fun hc=>(h0x (by (have hz:=hc.2;first|(unfold lenK at hz;simp at hz;omega)|(simp at hz;omega)))).1)) (Yg J J J (Zo Zf (Zp J id) J (fun hc=>(h0x (by (have hz:=hc.2;first|(unfold lenK at hz;simp at hz;omega)|(simp at hz;omega)))).2.1.grow g)) (CG (fun hc=>Yac _ _ _ _) (fun w22 g22=>?_)));have g:=g.trans g22;replace E:=E.grow g22;refine Zz J (fun _=>Yn (Zd J) (Zp J id)) (Zv J (Zk J J J (fun _=>Zi Zh (Zd J)) (Yg J J J (Zq Zg (Zp J id) (fun _=>E.g0.at_ J)) (Zk J J J (fun _=>Yv Zc (Zp J id) Xa (fun hc=>by (have hz:=hc.2;first|(unfold lenK at hz;simp at hz;omega)|(simp at hz;omega))) (fun hc=>(h1x (by (have hz:=hc.2;first|(unfold lenK at hz;simp at hz;omega)|(simp at hz;omega)))).1)) (Yg J J J (Zo Zf (Zp J id) J (fun hc=>(h1x (by (have hz:=hc.2;first|(unfold lenK at hz;simp at hz;omega)|(simp at hz;omega)))).2.1.grow g)) (Xu J J J (fun _=>(Zu Jja Xy (Ya (Zp J id) (Yl)) J)) (fun hc=>Wub _ _ _ _) (fun w29 g29=>?_)))))));have g:=g.trans g29;replace E:=E.grow g29
 refine Zk J J J (fun _=>Zw (Zp J id)) (Zk J J J (fun _=>Zi Zh (Zd J)) (Yg J J J (Zq Zg (Zp J id) (fun _=>E.g0.at_ J)) (Zk J J J (fun _=>Yv Zc (Zp J id) Xa (fun hc=>by (have hz:=hc.1.2;first|(unfold lenK at hz;simp at hz;omega)|(simp at hz;omega))) (fun hc=>(h1x (by (have hz:=hc.1.2;first|(unfold lenK at hz;simp at hz;omega)|(simp at hz;omega)))).1)) (Yg J J J (Zo Zf (Zp J id) J (fun hc=>(h1x (by (have hz:=hc.1.2;first|(unfold lenK at hz;simp at hz;omega)|(simp at hz;omega)))).2.1.grow g)) (Xu J J J (fun _=>(Zu Uq Xy (Ya (Zp J id) (Yl)) J)) (fun hc=>(h1x (by (have hz:=hc.1.2;first|(unfold lenK at hz;simp at hz;omega)|(simp at hz;omega)))).2.2.2.ex _ _ D _ ((h1x (by (have hz:=hc.1.2;first|(unfold lenK at hz;simp at hz;omega)|(simp at hz;omega)))).2.2.1.grow g)) (fun w35 g35=>?_))))));have g:=g.trans g35;replace E:=E.grow g35;refine RTN ?_;exact ⟨rfl,g⟩
theorem Wk{t:Nd}{i:Nat}(h:i<t.kids.length):count (Zb t i)<count t:=by
 rw [Yz h];have:=Xaa (Aba h);omega
theorem Qxc{t:Nd}(ih:Blw t){i:Nat}(h:i<t.kids.length):Blw (Zb t i):=fun k hk=>ih k (Nat.lt_trans hk (Wk h))
theorem Qyc(t:Nd):(!Zya t)=((((!decide (t.kind=23) || !plainB t) || !lenK t 2) || !commF (Zb t 0)) || !blockB (Zb t 1)):=by
 rw [Zya];cases decide (t.kind=23) <;> cases plainB t <;> cases lenK t 2 <;> cases commF (Zb t 0) <;> cases blockB (Zb t 1) <;> rfl
theorem Vbd(t:Nd)(p:Option Addr)(c:Nat)(D:Nat→Prop)(w:Aa)(hk:Kd w D t.kids (.slice p t.kids.length c))(ih:Blw t)(hln:t.kids.length≤1000000):Ret PP 130 #[ndV t (.slice p t.kids.length c)] w fun r w'=>r = .bool (refSelect t)∧G w w':=by
 have g:=G.refl w;refine WK 50 [0] Tryz.func130 ?_;refine Zj (Zl (BM fun _ w1 _ _ g E=>?_));refine Yr J (Ze (kq (Zj (Zj (Zl (Yr J (Ze (kq (Yx (Vv (fun (i:Nat) u1=>(i≤t.kids.length∧∀ j,(h:j<t.kids.length)→j<i→Zya t.kids[j]=true)∧G w1 u1) [(1,True,_)] (fun (i:Nat)=>[(3,True,.int .i64 i)]) (fun (i:Nat)=>t.kids.length-i) (0) ⟨⟨Aca _,fun j _ hj=>absurd hj (Aja j)⟩,G.refl _⟩ (Za J (Za J (Zr _))) ?_))))))))));rintro i u1 ⟨hI1,gl1⟩;have g:=g.trans gl1;replace E:=E.grow gl1;refine Zj (Zj (Zl (Zv J (Xg Zh J (Xl Zg J (E.g0.at_ J) (Yha Zc J (Uua J J (Ze (kq (Wz J (fun h1=>?_) (fun h1=>?_)))))))))));replace h1:i<t.kids.length:=by simp only [Wpg] at h1;omega
 obtain ⟨hpe,p2,c2,hcell,hkid⟩:=Yq hk h1;obtain ⟨p3,c3,h0x⟩:=Uib hkid (Qxc ih h1) 0;obtain ⟨p4,c4,h1x⟩:=Uib hkid (Qxc ih h1) 1;refine Yw (kq (Zj (Yx (Zj (Zl (Xg Zh J (Xl Zg J (E.g0.at_ J) (Zv J (Zma Zc J J O hpe (Wm Zf J J (hcell.grow g) (AN fun _ _ ga _ g E=>?_)))))))))));have l4_gl1:=ga.ge gl1;have gl1:=gl1.trans (ga.g);refine AS fun _ ga _ g E=>?_;first|replace gl1:=Yu gl1 ga O|clear gl1|skip
 refine Ze (kq (Zj (Zl (Xg Xi J (Xl Yf J (E.g0.at_ J) (Qld J J (Zv J (Zk J J J (fun _=>Zi Xe (Zd J)) (Yg J J J (Zq Yy (Zp J id) (fun _=>E.g0.at_ J)) (Zk J J J (fun _=>Wgc (Zp J id) Xa) (Zz J (fun _=>Xd (Zd J) (Zp J id)) (Zv J (Zk J J J (fun _=>Zi Zh (Zd J)) (Yg J J J (Zq Zg (Zp J id) (fun _=>E.g0.at_ J)) (Zk J J J (fun _=>Ysa Zc (Zp J id)) (Zk J J J (fun _=>Yka (Zp J id) Xa) (?_)))))))))))))))));refine Zz J (fun _=>Xd (Zd J) (Zp J id)) (Zv J (Zk J J J (fun _=>Zi Zh (Zd J)) (Yg J J J (Zq Zg (Zp J id) (fun _=>E.g0.at_ J)) (Zk J J J (fun _=>Yv Zc (Zp J id) Xa (fun hc=>by (have hz:=hc.2;first|(unfold lenK at hz;simp at hz;omega)|(simp at hz;omega))) (fun hc=>(h0x (by (have hz:=hc.2;first|(unfold lenK at hz;simp at hz;omega)|(simp at hz;omega)))).1)) (Yg J J J (Zo Zf (Zp J id) J (fun hc=>(h0x (by (have hz:=hc.2;first|(unfold lenK at hz;simp at hz;omega)|(simp at hz;omega)))).2.1.grow g)) (Xu J J J (fun _=>(Zu Qbc Xy (Ya (Zp J id) (Yl)) J)) (fun hc=>(h0x (by (have hz:=hc.2;first|(unfold lenK at hz;simp at hz;omega)|(simp at hz;omega)))).2.2.2.cm _ _ D _ ((h0x (by (have hz:=hc.2;first|(unfold lenK at hz;simp at hz;omega)|(simp at hz;omega)))).2.2.1.grow g)) (fun w36 g36=>?_)))))));have g:=g.trans g36;have gl1:=gl1.trans (g36);replace E:=E.grow g36
 refine Zk J J J (fun _=>Yvb (Zp J id)) (Zz J (fun _=>Xd (Zd J) (Zp J id)) (Zv J (Zk J J J (fun _=>Zi Zh (Zd J)) (Yg J J J (Zq Zg (Zp J id) (fun _=>E.g0.at_ J)) (Zk J J J (fun _=>Yv Zc (Zp J id) Xa (fun hc=>by (have hz:=hc.2;first|(unfold lenK at hz;simp at hz;omega)|(simp at hz;omega))) (fun hc=>(h1x (by (have hz:=hc.2;first|(unfold lenK at hz;simp at hz;omega)|(simp at hz;omega)))).1)) (Yg J J J (Zo Zf (Zp J id) J (fun hc=>(h1x (by (have hz:=hc.2;first|(unfold lenK at hz;simp at hz;omega)|(simp at hz;omega)))).2.1.grow g)) (Xu J J J (fun _=>(Zu Jh Xy (Ya (Zp J id) (Yl)) J)) (fun hc=>(h1x (by (have hz:=hc.2;first|(unfold lenK at hz;simp at hz;omega)|(simp at hz;omega)))).2.2.2.bl _ _ D _ ((h1x (by (have hz:=hc.2;first|(unfold lenK at hz;simp at hz;omega)|(simp at hz;omega)))).2.2.1.grow g)) (fun w44 g44=>?_))))))));have g:=g.trans g44;have gl1:=gl1.trans (g44);replace E:=E.grow g44;refine IF (fun h2=>?_) fun h2=>?_;replace h2:Zya (Zb t i)=false:=by simpa using (Qyc _).trans h2
 refine RTN ?_;refine ⟨Wog ?_,g⟩;rw [eq_comm,refSelect,show t.kids.all Zya=false from Ama.2 ⟨_,Aba h1,by rw [← Yz h1,h2];simp⟩];rfl;replace h2:Zya (Zb t i)=true:=by simpa using (Qyc _).trans h2
 refine AU ?_;refine SK [3,1] ?_;refine Ze (fun a ha=>?_);refine ⟨i+1,ha,⟨⟨h1,fun j h hj=>?_⟩,gl1⟩,O⟩;by_cases e:j=i;subst e;rw [← Yz h1];exact h2;exact hI1.2 j h O;refine RTN ?_;refine ⟨Wog ?_,g⟩
 rw [eq_comm,refSelect,show t.kids.all Zya=true from Aea.2 fun x hx=>by
  obtain ⟨j,hj,rfl⟩:=Aka hx;exact hI1.2 j hj (by simp only [Wqg] at h1;omega)];rfl
theorem Zeb(t:Nd)(p:Option Addr)(c:Nat)(D:Nat→Prop)(w:Aa)(hk:Kd w D t.kids (.slice p t.kids.length c))(ih:Blw t)(hln:t.kids.length≤1000000):Ret PP 99 #[ndV t (.slice p t.kids.length c)] w fun r w'=>r = .bool (stmtB t)∧G w w':=by
 rw [← Ug];have g:=G.refl w;obtain ⟨p0,c0,h0x⟩:=Uib hk ih 0;obtain ⟨p1,c1,h1x⟩:=Uib hk ih 1;have hr:∀ k∈t.kids,ROk k:=fun k hk=>ih k (Xaa hk);refine Vo (m:=149) Tryz.func99 J J [(0,True,_)] (Za J (Zr _)) ?_;refine Zj (Zl (BM fun _ _ _ _ g E=>?_));refine Yr J (Ze (kq (Zj (Zl (Xg Zh J (Xl Zg J (E.g0.at_ J) (Yha Zc J (Yr J (Ze (kq (Zj (Zl (Xg Xe J (Xl Yy J (E.g0.at_ J) (Wgd J J (Yr J (Ze (kq (?_)))))))))))))))))));refine Zj (Zj (Zl (Xg Xi J (Xl Yf J (E.g0.at_ J) (Ze (kq (Yx (Zj (Zl (Zea J J (Yr J (Ze (kq (Wz J (fun h1=>?_) (fun h1=>?_)))))))))))))));(try simp only [bsimp] at h1);refine Zj (Zl (Wm Zf J J E.g0.row (Wy J (Zu Znd Xy (aqc J aq0) J) (Vad t _ _ D _ (hk.grow g) ih) (fun w16 g16=>?_))));have g:=g.trans g16;replace E:=E.grow g16;refine Yr J (Ze (kq (Xo (Wj J J ?_))));refine ⟨Wog ?_,g⟩;unfold refStmt;simp only [anyK,h1,Wug,Wtg] <;> rfl
 refine Zj (Zl (Zea J J (Yr J (Ze (kq (Wz J (fun h2=>?_) (fun h2=>?_)))))));(try simp only [bsimp] at h2);refine Zj (Zl (Wm Zf J J E.g0.row (Wy J (Zu Jh Xy (aqc J aq0) J) (Vic t _ _ D _ (hk.grow g) ih hln) (fun w20 g20=>?_))));have g:=g.trans g20;replace E:=E.grow g20;refine Yr J (Ze (kq (Xo (Wj J J ?_))));refine ⟨Wog ?_,g⟩;unfold refStmt;simp only [anyK,h1,h2,Wug,Wtg] <;> rfl
 refine Zj (Zl (Zea J J (Yr J (Ze (kq (Wz J (fun h3=>?_) (fun h3=>?_)))))));(try simp only [bsimp] at h3);refine Zj (Zl (Wm Zf J J E.g0.row (Wy J (Zu Whd Xy (aqc J aq0) J) (Yoe t _ _ D _ (hk.grow g) ih) (fun w24 g24=>?_))));have g:=g.trans g24;replace E:=E.grow g24;refine Yr J (Ze (kq (Xo (Wj J J ?_))));refine ⟨Wog ?_,g⟩;unfold refStmt;simp only [anyK,h1,h2,h3,Wug,Wtg] <;> rfl
 refine Zj (Zl (Zea J J (Yr J (Ze (kq (Wz J (fun h4=>?_) (fun h4=>?_)))))));(try simp only [bsimp] at h4);refine Zj (Zl (Wm Zf J J E.g0.row (Wy J (Zu Xjc Xy (aqc J aq0) J) (Vbd t _ _ D _ (hk.grow g) ih hln) (fun w28 g28=>?_))));have g:=g.trans g28;replace E:=E.grow g28;refine Yr J (Ze (kq (Xo (Wj J J ?_))));refine ⟨Wog ?_,g⟩;rw [Jmb (by simpa using h4)];unfold refStmt;simp only [anyK,h1,h2,h3,h4,Wug,Wtg] <;> rfl
 refine Zj (Zl (Zea J J (Yr J (Ze (kq (Wz J (fun h5=>?_) (fun h5=>?_)))))));(try simp only [bsimp] at h5);refine Zj (Zl (Xg Xe J (Xl Yy J (E.g0.at_ J) (Wy J (Zu Qwa Xy (aqc J aq0) J) (Wqa _ _) (fun w33 g33=>?_)))));have g:=g.trans g33;replace E:=E.grow g33;refine Zv J (Zk J J J (fun _=>Zw (Zd J)) (Zk J J J (fun _=>Zoa (Zp J id) Xa) (Zz J (fun _=>Yn (Zd J) (Zp J id)) (Zv J (Zk J J J (fun _=>Zi Zh (Zd J)) (Yg J J J (Zq Zg (Zp J id) (fun _=>E.g0.at_ J)) (Zk J J J (fun _=>Yv Zc (Zp J id) Xa (fun hc=>by (have hz:=hc.2;first|(unfold lenK at hz;simp at hz;omega)|(simp at hz;omega))) (fun hc=>(h0x (by (have hz:=hc.2;first|(unfold lenK at hz;simp at hz;omega)|(simp at hz;omega)))).1)) (Yg J J J (Zo Zf (Zp J id) J (fun hc=>(h0x (by (have hz:=hc.2;first|(unfold lenK at hz;simp at hz;omega)|(simp at hz;omega)))).2.1.grow g)) (Xu J J J (fun _=>(Zu Uq Xy (Ya (Zp J id) (Yl)) J)) (fun hc=>(h0x (by (have hz:=hc.2;first|(unfold lenK at hz;simp at hz;omega)|(simp at hz;omega)))).2.2.2.ex _ _ D _ ((h0x (by (have hz:=hc.2;first|(unfold lenK at hz;simp at hz;omega)|(simp at hz;omega)))).2.2.1.grow g)) (fun w43 g43=>?_))))))))));have g:=g.trans g43;replace E:=E.grow g43;refine Zz J (fun _=>Yn (Zd J) (Zp J id)) (Yr J (Ze (kq (Xo (Wj J J ?_)))));refine ⟨Wog ?_,g⟩;unfold refStmt;simp only [anyK,h1,h2,h3,h4,h5,Wug,Wtg] <;> rfl
 refine Zj (Zj (Zl (Zea J J (Yr J (Ze (kq (?_)))))));refine' Wed [(1,_,_),(2,_,_),(3,_,_),(4,_,_),(12,_,_)] (Za J (Za J (Za J (Za J (Za J (Za J (Zr _))))))) J (fun hb6=>?y6) (kq ?n6)
 case y6 =>
  refine Zl (Zea J J (Yr J (Wx [(45,_,_),(1,_,_),(2,_,_),(3,_,_),(4,_,_),(12,_,_)] (Za J (Za J (Za J (Za J (Za J (Za J (Zr _))))))) (?_))));exact Ze knr
 case n6 =>
  refine Wz J (fun h7=>?_) (fun h7=>?_);(try simp only [bsimp] at h7);refine Zj (Zl (Zv J (Zv J (Zk J J J (fun _=>Zw (Zd J)) (Zk J J J (fun _=>Zoa (Zp J id) Xa) (Zz J (fun _=>Yn (Zd J) (Zp J id)) (Zv J (Zk J J J (fun _=>Zi Zh (Zd J)) (Yg J J J (Zq Zg (Zp J id) (fun _=>E.g0.at_ J)) (Xu J J J (fun _=>(Zu Yva Xy (Ya (Zp J id) (Yl)) J)) (fun hc=>Xxb _ _ _ D _ (hk.grow g) hr hln) (fun w56 g56=>?_)))))))))));have g:=g.trans g56;replace E:=E.grow g56;refine Zz J (fun _=>Yn (Zd J) (Zp J id)) (Yr J (Ze (kq (Xo (Wj J J ?_)))));refine ⟨Wog ?_,g⟩;unfold refStmt;simp only [anyK,h1,h2,h3,h4,h5,h7,Wug,Wtg] <;> rfl
  refine Zj (Zl (Zea J J (Yr J (Ze (kq (Wz J (fun h8=>?_) (fun h8=>?_)))))));(try simp only [bsimp] at h8);refine Zj (Zl (Zv J (Zv J (Zk J J J (fun _=>Zw (Zd J)) (Zk J J J (fun _=>Zoa (Zp J id) Xa) (Zz J (fun _=>Yn (Zd J) (Zp J id)) (Zv J (Zk J J J (fun _=>Zi Zh (Zd J)) (Yg J J J (Zq Zg (Zp J id) (fun _=>E.g0.at_ J)) (Zk J J J (fun _=>Yv Zc (Zp J id) Xa (fun hc=>by (have hz:=hc.2;first|(unfold lenK at hz;simp at hz;omega)|(simp at hz;omega))) (fun hc=>(h0x (by (have hz:=hc.2;first|(unfold lenK at hz;simp at hz;omega)|(simp at hz;omega)))).1)) (Yg J J J (Zo Zf (Zp J id) J (fun hc=>(h0x (by (have hz:=hc.2;first|(unfold lenK at hz;simp at hz;omega)|(simp at hz;omega)))).2.1.grow g)) (Xu J J J (fun _=>(Zu Xib Xy (Ya (Zp J id) (Ya Xa (Yl))) J)) (fun hc=>Ypd _ _ _ _ D _ ((h0x (by (have hz:=hc.2;first|(unfold lenK at hz;simp at hz;omega)|(simp at hz;omega)))).2.2.1.grow g) (h0x (by (have hz:=hc.2;first|(unfold lenK at hz;simp at hz;omega)|(simp at hz;omega)))).2.2.2) (fun w70 g70=>?_)))))))))))));have g:=g.trans g70;replace E:=E.grow g70
  refine Zk J J J (fun _=>Zw (Zp J id)) (Zk J J J (fun _=>Zi Zh (Zd J)) (Yg J J J (Zq Zg (Zp J id) (fun _=>E.g0.at_ J)) (Zk J J J (fun _=>Yv Zc (Zp J id) Xa (fun hc=>by (have hz:=hc.1.2;first|(unfold lenK at hz;simp at hz;omega)|(simp at hz;omega))) (fun hc=>(h0x (by (have hz:=hc.1.2;first|(unfold lenK at hz;simp at hz;omega)|(simp at hz;omega)))).1)) (Yg J J J (Zo Zf (Zp J id) J (fun hc=>(h0x (by (have hz:=hc.1.2;first|(unfold lenK at hz;simp at hz;omega)|(simp at hz;omega)))).2.1.grow g)) (Xu J J J (fun _=>(Zu Xib Xy (Ya (Zp J id) (Ya Xa (Yl))) J)) (fun hc=>Ypd _ _ _ _ D _ ((h0x (by (have hz:=hc.1.2;first|(unfold lenK at hz;simp at hz;omega)|(simp at hz;omega)))).2.2.1.grow g) (h0x (by (have hz:=hc.1.2;first|(unfold lenK at hz;simp at hz;omega)|(simp at hz;omega)))).2.2.2) (fun w76 g76=>?_))))));have g:=g.trans g76;replace E:=E.grow g76;refine Zk J J J (fun _=>Xd (Zp J id) (Zp J id)) (Zz J (fun _=>Yn (Zd J) (Zp J id)) (Yr J (Ze (kq (Xo (Wj J J ?_))))));refine ⟨Wog ?_,g⟩;unfold refStmt;simp only [anyK,h1,h2,h3,h4,h5,h7,h8,Wug,Wtg] <;> rfl
  refine Zj (Zj (Zl (Zea J J (Yr J (Ze (kq (?_)))))));refine' Wed [(1,_,_),(2,_,_),(3,_,_),(4,_,_),(12,_,_)] (Za J (Za J (Za J (Za J (Za J (Za J (Zr _))))))) J (fun hb9=>?y9) (kq ?n9)
  case y9 =>
   refine Zl (Zea J J (Yr J (Wx [(79,_,_),(1,_,_),(2,_,_),(3,_,_),(4,_,_),(12,_,_)] (Za J (Za J (Za J (Za J (Za J (Za J (Zr _))))))) (?_))));exact Ze knr
  case n9 =>
   refine Wz J (fun h10=>?_) (fun h10=>?_);(try simp only [bsimp] at h10);refine Zj (Zl (Zv J (Zv J (Zk J J J (fun _=>Zw (Zd J)) (Zk J J J (fun _=>Zoa (Zp J id) Xa) (Zz J (fun _=>Yn (Zd J) (Zp J id)) (Zv J (Zk J J J (fun _=>Zi Zh (Zd J)) (Yg J J J (Zq Zg (Zp J id) (fun _=>E.g0.at_ J)) (Zk J J J (fun _=>Yv Zc (Zp J id) Xa (fun hc=>by (have hz:=hc.2;first|(unfold lenK at hz;simp at hz;omega)|(simp at hz;omega))) (fun hc=>(h0x (by (have hz:=hc.2;first|(unfold lenK at hz;simp at hz;omega)|(simp at hz;omega)))).1)) (Yg J J J (Zo Zf (Zp J id) J (fun hc=>(h0x (by (have hz:=hc.2;first|(unfold lenK at hz;simp at hz;omega)|(simp at hz;omega)))).2.1.grow g)) (Xu J J J (fun _=>(Zu Xib Xy (Ya (Zp J id) (Ya Xa (Yl))) J)) (fun hc=>Ypd _ _ _ _ D _ ((h0x (by (have hz:=hc.2;first|(unfold lenK at hz;simp at hz;omega)|(simp at hz;omega)))).2.2.1.grow g) (h0x (by (have hz:=hc.2;first|(unfold lenK at hz;simp at hz;omega)|(simp at hz;omega)))).2.2.2) (fun w92 g92=>?_)))))))))))));have g:=g.trans g92;replace E:=E.grow g92;refine Zz J (fun _=>Yn (Zd J) (Zp J id)) (Yr J (Ze (kq (Xo (Wj J J ?_)))));refine ⟨Wog ?_,g⟩;unfold refStmt;simp only [anyK,h1,h2,h3,h4,h5,h7,h8,h10,Wug,Wtg] <;> rfl
   refine Zj (Zj (Zl (Zea J J (Yr J (Ze (kq (?_)))))));refine' Wed [(1,_,_),(2,_,_),(3,_,_),(4,_,_),(12,_,_)] (Za J (Za J (Za J (Za J (Za J (Za J (Zr _))))))) J (fun hb11=>?y11) (kq ?n11)
   case y11 =>
    refine Zl (Zea J J (Yr J (Wx [(94,_,_),(1,_,_),(2,_,_),(3,_,_),(4,_,_),(12,_,_)] (Za J (Za J (Za J (Za J (Za J (Za J (Zr _))))))) (?_))));exact Ze knr
   case n11 =>
    refine Wz J (fun h12=>?_) (fun h12=>?_);(try simp only [bsimp] at h12);refine Zj (Zl (Zv J (Zv J (Zk J J J (fun _=>Zw (Zd J)) (Zk J J J (fun _=>Zoa (Zp J id) Xa) (Zz J (fun _=>Yn (Zd J) (Zp J id)) (Zv J (Zk J J J (fun _=>Zi Zh (Zd J)) (Yg J J J (Zq Zg (Zp J id) (fun _=>E.g0.at_ J)) (Zk J J J (fun _=>Yv Zc (Zp J id) Xa (fun hc=>by (have hz:=hc.2;first|(unfold lenK at hz;simp at hz;omega)|(simp at hz;omega))) (fun hc=>(h0x (by (have hz:=hc.2;first|(unfold lenK at hz;simp at hz;omega)|(simp at hz;omega)))).1)) (Yg J J J (Zo Zf (Zp J id) J (fun hc=>(h0x (by (have hz:=hc.2;first|(unfold lenK at hz;simp at hz;omega)|(simp at hz;omega)))).2.1.grow g)) (Xu J J J (fun _=>(Zu Uq Xy (Ya (Zp J id) (Yl)) J)) (fun hc=>(h0x (by (have hz:=hc.2;first|(unfold lenK at hz;simp at hz;omega)|(simp at hz;omega)))).2.2.2.ex _ _ D _ ((h0x (by (have hz:=hc.2;first|(unfold lenK at hz;simp at hz;omega)|(simp at hz;omega)))).2.2.1.grow g)) (fun w107 g107=>?_)))))))))))));have g:=g.trans g107;replace E:=E.grow g107;refine Zz J (fun _=>Yn (Zd J) (Zp J id)) (Yr J (Ze (kq (Xo (Wj J J ?_)))));refine ⟨Wog ?_,g⟩;unfold refStmt;simp only [anyK,h1,h2,h3,h4,h5,h7,h8,h10,h12,Wug,Wtg] <;> rfl
    refine Zj (Zl (Zea J J (Yr J (Ze (kq (Wz J (fun h13=>?_) (fun h13=>?_)))))));(try simp only [bsimp] at h13);refine Zj (Zl (Zv J (Zv J (Zk J J J (fun _=>Zw (Zd J)) (Zk J J J (fun _=>Qle (Zp J id) Xa) (Zz J (fun _=>Yn (Zd J) (Zp J id)) (Zv J (Zk J J J (fun _=>Zi Zh (Zd J)) (Yg J J J (Zq Zg (Zp J id) (fun _=>E.g0.at_ J)) (Xu J J J (fun _=>(Zu Yva Xy (Ya (Zp J id) (Yl)) J)) (fun hc=>Xxb _ _ _ D _ (hk.grow g) hr hln) (fun w119 g119=>?_)))))))))));have g:=g.trans g119;replace E:=E.grow g119;refine Zz J (fun _=>Yn (Zd J) (Zp J id)) (Yr J (Ze (kq (Xo (Wj J J ?_)))));refine ⟨Wog ?_,g⟩;unfold refStmt;simp only [anyK,h1,h2,h3,h4,h5,h7,h8,h10,h12,h13,Wug,Wtg] <;> rfl
    refine Zj (Zl (Zea J J (Yr J (Ze (kq (Wz J (fun h14=>?_) (fun h14=>?_)))))));(try simp only [bsimp] at h14);refine Zj (Zl (Zv J (Zv J (Zk J J J (fun _=>Zw (Zd J)) (Zk J J J (fun _=>Zoa (Zp J id) Xa) (Zz J (fun _=>Yn (Zd J) (Zp J id)) (Zv J (Zk J J J (fun _=>Zi Zh (Zd J)) (Yg J J J (Zq Zg (Zp J id) (fun _=>E.g0.at_ J)) (Zk J J J (fun _=>Yv Zc (Zp J id) Xa (fun hc=>by (have hz:=hc.2;first|(unfold lenK at hz;simp at hz;omega)|(simp at hz;omega))) (fun hc=>(h0x (by (have hz:=hc.2;first|(unfold lenK at hz;simp at hz;omega)|(simp at hz;omega)))).1)) (Yg J J J (Zo Zf (Zp J id) J (fun hc=>(h0x (by (have hz:=hc.2;first|(unfold lenK at hz;simp at hz;omega)|(simp at hz;omega)))).2.1.grow g)) (Xu J J J (fun _=>(Zu Jja Xy (Ya (Zp J id) (Yl)) J)) (fun hc=>Wub _ _ _ _) (fun w133 g133=>?_)))))))))))));have g:=g.trans g133;replace E:=E.grow g133;refine Zk J J J (fun _=>Zw (Zp J id)) (Zk J J J (fun _=>Zi Zh (Zd J)) (Yg J J J (Zq Zg (Zp J id) (fun _=>E.g0.at_ J)) (Zk J J J (fun _=>Yv Zc (Zp J id) Xa (fun hc=>by (have hz:=hc.1.2;first|(unfold lenK at hz;simp at hz;omega)|(simp at hz;omega))) (fun hc=>(h0x (by (have hz:=hc.1.2;first|(unfold lenK at hz;simp at hz;omega)|(simp at hz;omega)))).1)) (Yg J J J (Zo Zf (Zp J id) J (fun hc=>(h0x (by (have hz:=hc.1.2;first|(unfold lenK at hz;simp at hz;omega)|(simp at hz;omega)))).2.1.grow g)) (Xu J J J (fun _=>(Zu Uq Xy (Ya (Zp J id) (Yl)) J)) (fun hc=>(h0x (by (have hz:=hc.1.2;first|(unfold lenK at hz;simp at hz;omega)|(simp at hz;omega)))).2.2.2.ex _ _ D _ ((h0x (by (have hz:=hc.1.2;first|(unfold lenK at hz;simp at hz;omega)|(simp at hz;omega)))).2.2.1.grow g)) (fun w139 g139=>?_))))));have g:=g.trans g139
    replace E:=E.grow g139;refine Zk J J J (fun _=>Xd (Zp J id) (Zp J id)) (Zz J (fun _=>Yn (Zd J) (Zp J id)) (Zv J (Zk J J J (fun _=>Zi Zh (Zd J)) (Yg J J J (Zq Zg (Zp J id) (fun _=>E.g0.at_ J)) (Zk J J J (fun _=>Yv Zc (Zp J id) Xa (fun hc=>by (have hz:=hc.2;first|(unfold lenK at hz;simp at hz;omega)|(simp at hz;omega))) (fun hc=>(h1x (by (have hz:=hc.2;first|(unfold lenK at hz;simp at hz;omega)|(simp at hz;omega)))).1)) (Yg J J J (Zo Zf (Zp J id) J (fun hc=>(h1x (by (have hz:=hc.2;first|(unfold lenK at hz;simp at hz;omega)|(simp at hz;omega)))).2.1.grow g)) (Xu J J J (fun _=>(Zu Jh Xy (Ya (Zp J id) (Yl)) J)) (fun hc=>(h1x (by (have hz:=hc.2;first|(unfold lenK at hz;simp at hz;omega)|(simp at hz;omega)))).2.2.2.bl _ _ D _ ((h1x (by (have hz:=hc.2;first|(unfold lenK at hz;simp at hz;omega)|(simp at hz;omega)))).2.2.1.grow g)) (fun w147 g147=>?_))))))));have g:=g.trans g147;replace E:=E.grow g147;refine Zz J (fun _=>Yn (Zd J) (Zp J id)) (Yr J (Ze (kq (Xo (Wj J J ?_)))));refine ⟨Wog ?_,g⟩;unfold refStmt;simp only [anyK,h1,h2,h3,h4,h5,h7,h8,h10,h12,h13,h14,Wug,Wtg] <;> rfl
    refine Yw (kq (Zj (Zl (Yr J (Ze (kq (Xo (Wj J J ?_))))))));refine ⟨Wog ?_,g⟩;unfold refStmt;simp only [anyK,h1,h2,h3,h4,h5,h7,h8,h10,h12,h13,h14,Wug,Wtg] <;> rfl
theorem Zfb{t:Nd}(h:t.kind=13∨t.kind=11)(hp:stmtB t=true):t.kids.length=1:=Ycc h (Aia.1 hp).2
theorem Vjc{t:Nd}(h:t.kind=12)(hp:stmtB t=true):t.kids.length=2:=Uma (.inl h) (Aia.1 hp).2
theorem Vye(t:Nd)(p:Option Addr)(c:Nat)(D:Nat→Prop)(w:Aa)(hk:Kd w D t.kids (.slice p t.kids.length c))(ih:Blw t)(hln:t.kids.length≤1000000):Ret PP 155 #[ndV t (.slice p t.kids.length c)] w fun r w'=>r = .bool (commF t)∧G w w':=by
 rw [← Qbb];have g:=G.refl w;obtain ⟨p0,c0,h0x⟩:=Uib hk ih 0;obtain ⟨p1,c1,h1x⟩:=Uib hk ih 1;refine WK 50 [0] Tryz.func155 ?_;refine BM fun _ _ _ _ g E=>?_;refine AU ?_;refine' OR [1,2,4] (fun hb1=>?y1) (kq ?n1)
 case y1 =>
  refine AU ?_;refine SK [5,1,2,4] ?_;exact Ze knr
 case n1 =>
  refine IF (fun h2=>?_) fun h2=>?_;(try simp only [bsimp] at h2);refine AU ?_;refine CP (Zeb t _ _ D _ (hk.grow g) ih hln) (fun w9 g9=>?_);have g:=g.trans g9;replace E:=E.grow g9;refine AU ?_;refine CG (fun hc=>Wub _ _ _ _) (fun w12 g12=>?_);have g:=g.trans g12;replace E:=E.grow g12;refine RTN ?_;refine ⟨Wog ?_,g⟩;unfold Uja;simp only [anyK,h2,Wug,Wtg] <;> rfl
  refine IF (fun h3=>?_) fun h3=>?_;have hk3:t.kind=13:=by simpa using h3
  refine AU ?_;refine CP (Zeb t _ _ D _ (hk.grow g) ih hln) (fun w17 g17=>?_);have g:=g.trans g17;replace E:=E.grow g17;refine AU ?_;refine Zk J J J (fun _=>Yv Zc (Zp J id) Xa (fun hc=>by have:=Zfb (.inl hk3) hc.2;omega) (fun hc=>(h0x (by have:=Zfb (.inl hk3) hc.2;omega)).1)) ?_;refine AU ?_;refine Yg J J J (Zq Yf (Zp J id) (fun hc=>((h0x (by have:=Zfb (.inl hk3) hc.2;omega)).2.1.grow g) 0 _ J)) ?_;refine RTN ?_;refine ⟨Wog ?_,g⟩;unfold Uja;simp only [anyK,h2,h3,Wug,Wtg] <;> rfl
  refine IF (fun h4=>?_) fun h4=>?_;have hk4:t.kind=12:=by simpa using h4
  refine AU ?_;refine CP (Zeb t _ _ D _ (hk.grow g) ih hln) (fun w29 g29=>?_);have g:=g.trans g29;replace E:=E.grow g29;refine AU ?_;refine Zk J J J (fun _=>Yv Zc (Zp J id) Xa (fun hc=>by have:=Vjc hk4 hc.2;omega) (fun hc=>(h1x (by have:=Vjc hk4 hc.2;omega)).1)) ?_;refine AU ?_;refine Yg J J J (Zq Yf (Zp J id) (fun hc=>((h1x (by have:=Vjc hk4 hc.2;omega)).2.1.grow g) 0 _ J)) ?_;refine RTN ?_;refine ⟨Wog ?_,g⟩;unfold Uja;simp only [anyK,h2,h3,h4,Wug,Wtg] <;> rfl
  refine IF (fun h5=>?_) fun h5=>?_;have hk5:t.kind=11:=by simpa using h5
  refine AU ?_;refine CP (Zeb t _ _ D _ (hk.grow g) ih hln) (fun w41 g41=>?_);have g:=g.trans g41;replace E:=E.grow g41;refine AU ?_;refine Zk J J J (fun _=>Yv Zc (Zp J id) Xa (fun hc=>by have:=Zfb (.inr hk5) hc.2;omega) (fun hc=>(h0x (by have:=Zfb (.inr hk5) hc.2;omega)).1)) ?_;refine AU ?_;refine Yg J J J (Zq Yf (Zp J id) (fun hc=>((h0x (by have:=Zfb (.inr hk5) hc.2;omega)).2.1.grow g) 0 _ J)) ?_;refine RTN ?_;refine ⟨Wog ?_,g⟩;unfold Uja;simp only [anyK,h2,h3,h4,h5,Wug,Wtg] <;> rfl
  refine RTN ?_;refine ⟨Wog ?_,g⟩;unfold Uja;simp only [anyK,h2,h3,h4,h5,Wug,Wtg] <;> rfl
theorem Vxf:∀ n t,count t≤n→n≤1000000→ROk t:=by
 intro n
 induction n with
 | zero=>intro t h;have:=Yza t;omega
 | succ n ihn =>
  intro t h hn;have ih:Blw t:=fun k hk=>ihn k O O;have hln:t.kids.length≤1000000:=by have:=Wn t;omega
  exact ⟨fun p c D w hk=>Vxe t p c D w hk ih hln,fun p c D w hk=>Vic t p c D w hk ih hln,fun p c D w hk=>Zeb t p c D w hk ih hln,fun p c D w hk=>Yoe t p c D w hk ih,fun p c D w hk=>Vye t p c D w hk ih hln⟩
theorem rok(t:Nd)(h:count t≤1000000):ROk t:=Vxf _ t h (Aqa _)
section
variable {P:Fa} {n:Nat} {σ:List Ent} {c:Prop} {wb:Aa} {ty:Ba}
theorem Zef{x y:Ea}{k k':IntKind}{a b:Int}{ts:Array Ba}(h:Ev n σ c x (.int k a))(h':Ev n σ c y (.int k' b)):Rd P n σ c wb (.call { callee:=.builtin .max,args:=#[x,y],argTypes:=ts }) ty (.int k (if b>a then b else a)):=.mk fun d pos after gd a ha hc w1 _=>by
 simp [execOp,resolve,invoke,builtin,h a ha hc,h' a ha hc,Builtin.max_,Builtin.max2]
end
theorem Vyf(a b:Nat):(if (b:Int)>a then (b:Int) else a)=((max a b:Nat):Int):=by split <;> omega
def fieldB(t:Nd):Bool:=decide (t.kind=3)&&permF t
theorem Vkc(t:Nd):(!fieldB t)=(((!decide (t.kind=3) || !nameB t.text) || !lenK t 1) || !isTypeB (Zb t 0)):=by
 have e:fieldB t=(((decide (t.kind=3)&&nameB t.text)&&lenK t 1)&&isTypeB (Zb t 0)):=by
  rw [fieldB];by_cases h:t.kind=3;rw [Vz,locB,textB',formB,h,Ycb];exact congrArg (true && ·) (fl1 (X:=nameB t.text) (q:=typK)).symm |>.trans (by rfl)
  rw [Wmg h];rfl
 rw [e];cases decide (t.kind=3) <;> cases nameB t.text <;> cases lenK t 1 <;> cases isTypeB (Zb t 0) <;> rfl
def declB(t:Nd):Bool:=(memK [2,6,4] t.kind&&permF t) && !fileVarB t
def Ydb(t:Nd):Bool :=
 bif decide (t.kind=2) then nameB t.text&&t.kids.all fieldB
 else bif decide (t.kind=6) then varB t&&noneB (Zb t 1)
 else bif decide (t.kind=4) then
  bif !nameB t.text || !lenK t 3 then false else (((decide ((Zb t 0).kind=5)&&plainB (Zb t 0))&&(Zb t 0).kids.all fieldB)&&(noneB (Zb t 1) || isTypeB (Zb t 1)))&&blockB (Zb t 2)
 else false
theorem Qzc{t:Nd}:(everyB t (memK [3])&&t.kids.all permF)=t.kids.all fieldB:=by
 rw [Zdb];congr 1;funext k;rw [Qk];rfl
theorem Vze(t:Nd):((decide (t.kind=5)&&plainB t)&&t.kids.all fieldB)=(memK [5] t.kind&&permF t):=by
 rw [Qk];by_cases h:t.kind=5;rw [Vz t,locB,textB',formB,h,Aaa];exact congrArg (true && ·) (by rw [← Qzc,← Aaa];rfl);rw [Wmg h];rfl
theorem Jfd(t:Nd):Ydb t=declB t:=by
 rw [Ydb,declB];by_cases h:t.kind=2;rw [Vz t,locB,textB',formB,fileVarB,h];refine Eq.trans (b:=(nameB t.text&&everyB t (memK [3]))&&t.kids.all permF) ?_ (Eq.trans (Bba _).symm J);rw [Aaa (nameB t.text) (everyB t _),Qzc];rfl;by_cases h1:t.kind=6;rw [varB,fileVarB,h1];refine Eq.trans (b:=permF t&&noneB (Zb t 1)) J (Eq.trans (b:=permF t && !(!lenK t 2 || !decide ((Zb t 1).kind=9))) ?_ J);rw [Qka]
 cases hp:permF t with
 | false=>rfl
 | true =>
  have hl:=Uma (.inr h1) hp
  have hk:permF (Zb t 1)=true:=by
   rw [Vz,Ada,Aea] at hp;rw [Yz O];exact hp.2 _ (Aba _)
  rw [hk,show lenK t 2=true by rw [lenK,Wpg];omega];cases decide ((Zb t 1).kind=9) <;> rfl
 by_cases h2:t.kind=4;rw [Vze,Vz t,locB,textB',formB,fileVarB,h2];refine Eq.trans (b:=bif !nameB t.text || !lenK t 3 then false else ((memK [5] (Zb t 0).kind&&permF (Zb t 0))&&(noneB (Zb t 1) || isTypeB (Zb t 1)))&&blockB (Zb t 2)) J (Eq.trans (b:=(nameB t.text&&kidsB t [memK [5],fun k=>typK k || memK [9] k,memK [10]])&&t.kids.all permF) ?_ (Eq.trans (Bba _).symm J));rw [Ynd,Aaa (nameB t.text) (kidsB t _),Jed,Qka,Ycb,Ymd,blockB,Qk 9,Qk 10];ac_rfl;simp only [memK,List.mem_cons,List.not_mem_nil,h,h1,h2,decide_false,or_false,Wtg,Apa]
theorem Jac(l:List Nd)(p:Option Addr)(c:Nat)(D:Nat→Prop)(w:Aa)(hk:Kd w D l (.slice p l.length c))(hln:l.length≤1000000):Ret PP 78 #[.slice p l.length c] w fun r w'=>r = .bool (l.all fieldB)∧G w w':=by
 have g:=G.refl w;obtain ⟨p',c',hpe,_,hks⟩:=hk;injection hpe with hpe _ hce;subst hpe hce;refine Vo (m:=45) Tryz.func78 J J [(0,True,_)] (Za J (Zr _)) ?_;refine Zj (Zl (Yr J (Ze (kq (Zj (Zj (Zl (Yr J (Ze (kq (Yx (Vv (fun (i:Nat) u1=>(i≤l.length∧∀ j,(h:j<l.length)→j<i→fieldB l[j]=true)∧G w u1) [(0,True,_)] (fun (i:Nat)=>[(3,True,.int .i64 i)]) (fun (i:Nat)=>l.length-i) (0) ⟨⟨Aca _,fun j _ hj=>absurd hj (Aja j)⟩,G.refl _⟩ (Za J (Za J (Zr _))) ?_))))))))))));rintro i u1 ⟨hI1,gl1⟩;have g:=g.trans gl1;refine Zj (Zj (Zl (Zv J (Zv J (Yha Zc J (Uua J J (Ze (kq (Wz J (fun h1=>?_) (fun h1=>?_))))))))));replace h1:i<l.length:=by simp only [Wpg] at h1;omega
 obtain ⟨b,o,rfl,hD,xs,hR,hX⟩:=hks O;obtain ⟨p',c',hcell,hkid⟩:=Zab hR hX h1;obtain ⟨p3,c3,h0x⟩:=Xvc hkid 0;refine Yw (kq (Zj (Yx (Zj (Zl (Zv J (Zv J (Xeb Zc J J O (Xg Xi J (Xl Yf J ((hcell.grow g) 0 _ J) (Qld J J (Zv J (Zk J J J (fun _=>Zw (Zd J)) (Zk J J J (fun _=>Zw (Zd J)) (Zk J J J (fun _=>Xta Zc (Zp J id) (Zp J id) (fun _=>O)) (Zk J J J (fun _=>Zi Xe (Zp J id)) (?_)))))))))))))))));refine Yg J J J (Zq Yy (Zp J id) (fun _=>(hcell.grow g) 1 _ J)) (Xu J J J (fun _=>(Zu Qwa Xy (Ya (Zp J id) (Yl)) J)) (fun hc=>Wqa _ _) (fun w22 g22=>?_));have g:=g.trans g22;have gl1:=gl1.trans (g22);refine Zk J J J (fun _=>Yvb (Zp J id)) (Zz J (fun _=>Xd (Zd J) (Zp J id)) (Zv J (Zk J J J (fun _=>Zw (Zd J)) (Zk J J J (fun _=>Zw (Zd J)) (Zk J J J (fun _=>Xta Zc (Zp J id) (Zp J id) (fun _=>O)) (Zk J J J (fun _=>Zi Zh (Zp J id)) (Yg J J J (Zq Zg (Zp J id) (fun _=>(hcell.grow g) 4 _ J)) (Zk J J J (fun _=>Ysa Zc (Zp J id)) (Zk J J J (fun _=>Yka (Zp J id) Xa) (Zz J (fun _=>Xd (Zd J) (Zp J id)) (Zv J (Zk J J J (fun _=>Zw (Zd J)) (Zk J J J (fun _=>Zw (Zd J)) (Zk J J J (fun _=>Xta Zc (Zp J id) (Zp J id) (fun _=>O)) (Zk J J J (fun _=>Zi Zh (Zp J id)) (?_))))))))))))))))
 refine Yg J J J (Zq Zg (Zp J id) (fun _=>(hcell.grow g) 4 _ J)) (Zk J J J (fun _=>Yv Zc (Zp J id) Xa (fun hc=>by (have hz:=hc.2;first|(unfold lenK at hz;simp at hz;omega)|(simp at hz;omega))) (fun hc=>(h0x (by (have hz:=hc.2;first|(unfold lenK at hz;simp at hz;omega)|(simp at hz;omega)))).1)) (Yg J J J (Zo Zf (Zp J id) J (fun hc=>(h0x (by (have hz:=hc.2;first|(unfold lenK at hz;simp at hz;omega)|(simp at hz;omega)))).2.1.grow g)) (Xu J J J (fun _=>(Zu Vvb Xy (Ya (Zp J id) (Yl)) J)) (fun hc=>Yac _ _ _ _) (fun w42 g42=>?_))));have g:=g.trans g42;have gl1:=gl1.trans (g42);refine IF (fun h2=>?_) fun h2=>?_;replace h2:fieldB l[i]=false:=by simpa using (Vkc _).trans h2
 refine RTN ?_;refine ⟨Wog ?_,g⟩;rw [eq_comm,Ama];exact ⟨_,Aba h1,by rw [h2];simp⟩;replace h2:fieldB l[i]=true:=by simpa using (Vkc _).trans h2
 refine AU ?_;refine SK [3,0] ?_;refine Ze (fun a ha=>?_);refine ⟨i+1,ha,⟨⟨h1,fun j h hj=>?_⟩,gl1⟩,O⟩;by_cases e:j=i;subst e;exact h2;exact hI1.2 j h O;refine RTN ?_;refine ⟨Wog ?_,g⟩;rw [eq_comm,Aea];intro x hx;obtain ⟨j,hj,rfl⟩:=Aka hx;exact hI1.2 j hj (by simp only [Wqg] at h1;omega)
theorem Uae(t:Nd)(p:Option Addr)(c:Nat)(D:Nat→Prop)(w:Aa)(hk:Kd w D t.kids (.slice p t.kids.length c))(hcn:count t≤1000000):Ret PP 49 #[ndV t (.slice p t.kids.length c)] w fun r w'=>r = .bool (declB t)∧G w w':=by
 rw [← Jfd];have g:=G.refl w;have hln:=Wn t;have ih:Blw t:=fun k hk=>rok k O;obtain ⟨p1,c1,h1x⟩:=Uib hk ih 1;refine WK 77 [0] Tryz.func49 ?_;refine BM fun _ _ _ _ g E=>?_;refine IF (fun h1=>?_) fun h1=>?_;(try simp only [bsimp] at h1);refine AU ?_;refine CP (Wqa _ _) (fun w10 g10=>?_);have g:=g.trans g10;replace E:=E.grow g10;refine AU ?_;refine CG (fun hc=>Jac _ _ _ D _ (hk.grow g) O) (fun w14 g14=>?_);have g:=g.trans g14;replace E:=E.grow g14;refine RTN ?_;refine ⟨Wog ?_,g⟩;unfold Ydb;simp only [h1,Wug,Wtg] <;> rfl
 refine IF (fun h2=>?_) fun h2=>?_;have hk2:t.kind=6:=by simpa using h2
 refine AU ?_;refine CP (Vad t _ _ D _ (hk.grow g) ih) (fun w19 g19=>?_);have g:=g.trans g19;replace E:=E.grow g19;refine AU ?_;refine Zk J J J (fun _=>Yv Zc (Zp J id) Xa (fun hc=>by have:=Uma (.inr hk2) (Aia.1 hc.2).2;omega) (fun hc=>(h1x (by have:=Uma (.inr hk2) (Aia.1 hc.2).2;omega)).1)) (Yg J J J (Zo Zf (Zp J id) J (fun hc=>(h1x (by have:=Uma (.inr hk2) (Aia.1 hc.2).2;omega)).2.1.grow g)) (CG (fun hc=>Wub _ _ _ _) (fun w25 g25=>?_)));have g:=g.trans g25;replace E:=E.grow g25;refine RTN ?_;refine ⟨Wog ?_,g⟩;unfold Ydb;simp only [h1,h2,Wug,Wtg] <;> rfl
 refine IF (fun h3=>?_) fun h3=>?_;(try simp only [bsimp] at h3);refine Zj (Zj (Zl (Xg Xe J (Xl Yy J (E.g0.at_ J) (Wy J (Zu Qwa Xy (aqc J aq0) J) (Wqa _ _) (fun w31 g31=>?_))))));have g:=g.trans g31;replace E:=E.grow g31;refine Vbe J (Zv J (Zk J J J (fun _=>Zi Zh (Zd J)) (Yg J J J (Zq Zg (Zp J id) (fun _=>E.g0.at_ J)) (Zk J J J (fun _=>Ysa Zc (Zp J id)) (Zk J J J (fun _=>Yka (Zp J id) Xa) (Zz J (fun _=>Xd (Zd J) (Zp J id)) (Ze (kq (Wz J (fun h4=>?_) (fun h4=>?_))))))))));replace h4:(!nameB t.text || !lenK t 3)=true:=h4;refine Zj (Zl (Yr J (Ze (kq (Xo (Wj J J ?_))))));refine ⟨Wog ?_,g⟩;unfold Ydb;simp only [h1,h2,h3,h4,Wug,Wtg] <;> rfl
 replace h4:(!nameB t.text || !lenK t 3)=false:=h4;have hl3:t.kids.length=3:=by simp only [lenK,Awa,Bool.not_eq_false',Wpg] at h4;omega
 obtain ⟨hpe,p0,c0,hcell0,hkid0⟩:=Yq hk (i:=0) O;obtain ⟨_,p2,c2,hcell2,hkid2⟩:=Yq hk (i:=2) O;obtain ⟨_,hcell1,hkid1,hr1⟩:=h1x O;have hr2:=ih.kid (i:=2) O;have hkl0:=Qvc hcn 0;refine Yw (kq (Zj (Zl (Xg Zh J (Xl Zg J (E.g0.at_ J) (Zma Zc J J O hpe (Wm Zf J J (hcell0.grow g) (AN fun _ _ _ _ g E=>?_))))))));refine AS fun _ _ _ g E=>?_;refine Ze (kq (Zj (Zl (Xg Xi J (Xl Yf J (E.g0.at_ J) (Zea J J (Zv J (Zk J J J (fun _=>Zi Xe (Zd J)) (Yg J J J (Zq Yy (Zp J id) (fun _=>E.g0.at_ J)) (Zk J J J (fun _=>Ulb (Zp J id) Xa) (Zz J (fun _=>Yn (Zd J) (Zp J id)) (Zv J (Zk J J J (fun _=>Zi Zh (Zd J)) (Yg J J J (Zq Zg (Zp J id) (fun _=>E.g0.at_ J)) (Xu J J J (fun _=>(Zu Qac Xy (Ya (Zp J id) (Yl)) J)) (fun hc=>Jac _ _ _ D _ (hkid0.grow g) hkl0) (fun w54 g54=>?_))))))))))))))));have g:=g.trans g54;replace E:=E.grow g54;refine Zz J (fun _=>Yn (Zd J) (Zp J id)) (Zv J (Zk J J J (fun _=>Zi Zh (Zd J)) (Yg J J J (Zq Zg (Zp J id) (fun _=>E.g1.at_ J)) (Zk J J J (fun _=>Yv Zc (Zp J id) Xa (fun _=>O) (fun _=>hpe)) (Yg J J J (Zo Zf (Zp J id) J (fun _=>hcell1.grow g)) (Xu J J J (fun _=>(Zu Jja Xy (Ya (Zp J id) (Yl)) J)) (fun hc=>Wub _ _ _ _) (fun w61 g61=>?_)))))));have g:=g.trans g61;replace E:=E.grow g61;refine Zk J J J (fun _=>Zw (Zp J id)) (Zk J J J (fun _=>Zi Zh (Zd J)) (Yg J J J (Zq Zg (Zp J id) (fun _=>E.g1.at_ J)) (Zk J J J (fun _=>Yv Zc (Zp J id) Xa (fun _=>O) (fun _=>hpe)) (Yg J J J (Zo Zf (Zp J id) J (fun _=>hcell1.grow g)) (Xu J J J (fun _=>(Zu Vvb Xy (Ya (Zp J id) (Yl)) J)) (fun hc=>Yac _ _ _ _) (fun w67 g67=>?_))))));have g:=g.trans g67;replace E:=E.grow g67
 refine Zk J J J (fun _=>Xd (Zp J id) (Zp J id)) (Zz J (fun _=>Yn (Zd J) (Zp J id)) (Zv J (Zk J J J (fun _=>Zi Zh (Zd J)) (Yg J J J (Zq Zg (Zp J id) (fun _=>E.g1.at_ J)) (Zk J J J (fun _=>Yv Zc (Zp J id) Xa (fun _=>O) (fun _=>hpe)) (Yg J J J (Zo Zf (Zp J id) J (fun _=>hcell2.grow g)) (Xu J J J (fun _=>(Zu Jh Xy (Ya (Zp J id) (Yl)) J)) (fun hc=>hr2.bl _ _ D _ (hkid2.grow g)) (fun w75 g75=>?_))))))));have g:=g.trans g75;replace E:=E.grow g75;refine RTN ?_;refine ⟨Wog ?_,g⟩;unfold Ydb;simp only [h1,h2,h3,h4,Wug,Wtg] <;> rfl
 refine RTN ?_;refine ⟨Wog ?_,g⟩;unfold Ydb;simp only [h1,h2,h3,Wug,Wtg] <;> rfl
theorem Ube:∀ (t:Nd) (v:Ga) (D:Nat→Prop) (w:Aa),Kd w D t.kids v→count t≤1000000→Ret PP 44 #[ndV t v] w fun r w'=>r = .int .i64 (depthN t:Nat)∧G w w':=by
 refine Nd.ind fun t ih v D w hk hcn=>?_;obtain ⟨p,c,rfl,hcap,hks⟩:=hk;have g:=G.refl w;have hlen:=Wn t;have hdc:=Yid t;have hde:=Ybc t
 have hpre:∀ i,maxL ((t.kids.take i).map depthN)≤maxL (t.kids.map depthN):=fun i=>by
  rw [Xwc];intro x hx;rw [List.map_take] at hx;exact (Xwc _ _).1 (Aqa _) x (Boa hx)
 refine WK 22 [0] Tryz.func44 ?_;refine BM fun _ w1 _ _ g E=>?_;refine Yr J (Ze (kq (Zj (Zl (Yr J (Ze (kq (Zj (Zj (Zl (Yr J (Ze (kq (Yx (Vv (fun (i:Nat) u1=>(i≤t.kids.length)∧G w1 u1) [(1,True,_),(2,True,_)] (fun (i:Nat)=>[(3,True,.int .i64 ((maxL ((t.kids.take i).map depthN):Nat):Int)),(4,True,.int .i64 i)]) (fun (i:Nat)=>t.kids.length-i) (0) ⟨by simp,G.refl _⟩ (Za J (Za J (Za J (Za J (Zr _))))) ?_)))))))))))))));rintro i u1 ⟨hI1,gl1⟩;have g:=g.trans gl1;replace E:=E.grow gl1;refine Zj (Zj (Zl (Zv J (Xg Zh J (Xl Zg J (E.g0.at_ J) (Yha Zc J (Uua J J (Ze (kq (Wz J (fun h1=>?_) (fun h1=>?_)))))))))));replace h1:i<t.kids.length:=by simp only [Wpg] at h1;omega
 obtain ⟨b,o,rfl,hD,xs,hR,hX⟩:=hks O;obtain ⟨p',c',hcell,hkid⟩:=Zab hR hX h1;have hck:=Jk h1;refine Yw (kq (Zj (Yx (Qua [3,3,0,3,3,0,1,3,3] (Zv J (Xg Zh J (Xl Zg J (E.g0.at_ J) (Zv J (Xeb Zc J J O (Wm Zf J J (hcell.grow g) (Wy J (Zu Zld Xy (aqc J aq0) J) (ih _ (Aba h1) _ _ _ (hkid.grow g) O) (fun w18 g18=>?_))))))))))));have gl1:=gl1.trans (g18);replace E:=E.grow g18;refine Zz J (fun _=>Zef (Zd J) (Zd J)) (Yr J (Ze (kq (Zl (Zv J (Jga J J O (Yr J (Wx [(3,_,_),(4,_,_),(1,_,_),(2,_,_)] (Za J (Za J (Za J (Za J (Zr _))))) (Ze (fun a ha=>?_))))))))));rw [Vyf,show max (maxL ((t.kids.take i).map depthN)) (depthN t.kids[i])=maxL ((t.kids.take (i+1)).map depthN) by rw [Uhb depthN t.kids i h1,maxL,maxL,List.foldl_append];rfl] at ha;exact ⟨i+1,ha,⟨h1,gl1⟩,O⟩;replace h1:i=t.kids.length:=by simp only [Wqg] at h1;omega
 have hp:=hpre i;refine RTN ?_;refine ⟨?_,g⟩;rw [h1,List.take_length,hde];rfl
theorem Uce(t:Nd):(bif (!decide (t.kind=1) || !plainB t) || decide ((50:Int)<(depthN t:Nat)) then false else t.kids.all declB)=validB t:=by
 rw [validB,permB];by_cases h:t.kind=1;rw [Vz,locB,textB',formB,h];refine Eq.trans (b:=bif !plainB t || decide ((50:Int)<(depthN t:Nat)) then false else t.kids.all declB) J (Eq.trans (b:=((plainB t&&(!(t.kids.any fileVarB)&&everyB t (memK [2,6,4])))&&t.kids.all permF)&&decide (depthN t≤50)) ?_ J)
 have e1:decide ((50:Int)<(depthN t:Nat)) = !decide (depthN t≤50):=by
  rw [← decide_not,decide_eq_decide];omega
 have e2:t.kids.all declB=((!(t.kids.any fileVarB)&&everyB t (memK [2,6,4]))&&t.kids.all permF):=by
  rw [Aaa,Zdb,Baa];simp only [Ada,Aea,declB,Bool.not_eq_true',List.any_eq_false];constructor;intro h;exact ⟨fun k hk=>by rw [(h k hk).2];simp,fun k hk=>(h k hk).1⟩;rintro ⟨h1,h2⟩ k hk;exact ⟨h2 k hk,by simpa using h1 k hk⟩
 rw [e1,Ynd,e2];ac_rfl;rw [Wmg h];rfl
theorem Xdc(t:Nd)(v:Ga)(D:Nat→Prop)(w:Aa)(hk:Kd w D t.kids v)(hcn:count t≤1000000):Ret PP 24 #[ndV t v] w fun r w'=>r = .bool (validB t)∧G w w':=by
 rw [← Uce];obtain ⟨p,c,rfl,hcap,hks⟩:=hk;have hk0:Kd w D t.kids (.slice p t.kids.length c):=⟨p,c,rfl,hcap,hks⟩;have g:=G.refl w;have hln:=Wn t;refine WK 31 [0] Tryz.func24 ?_;refine BM fun _ _ _ _ g E=>?_;refine AU ?_;refine CG (fun hc=>Ube t _ D _ (hk0.grow g) hcn) (fun w14 g14=>?_);have g:=g.trans g14;replace E:=E.grow g14;refine IF (fun h1=>?_) fun h1=>?_;replace h1:((!decide (t.kind=1) || !plainB t) || decide ((50:Int)<(depthN t:Nat)))=true:=h1;refine RTN ?_;refine ⟨Wog ?_,g⟩;rw [h1];rfl;replace h1:((!decide (t.kind=1) || !plainB t) || decide ((50:Int)<(depthN t:Nat)))=false:=h1;refine AU ?_;refine Vv (fun (i:Nat) u1=>(i≤t.kids.length∧∀ j,(h:j<t.kids.length)→j<i→declB t.kids[j]=true)∧G w14 u1) [(1,True,_)] (fun (i:Nat)=>[(3,True,.int .i64 i)]) (fun (i:Nat)=>t.kids.length-i) (0) ⟨⟨Aca _,fun j _ hj=>absurd hj (Aja j)⟩,G.refl _⟩ (Za J (Za J (Zr _))) ?_;rintro i u1 ⟨hI1,gl1⟩;have g:=g.trans gl1;replace E:=E.grow gl1;refine IF (fun h2=>?_) fun h2=>?_;replace h2:i<t.kids.length:=by simp only [Wpg] at h2;omega
 obtain ⟨hpe,p2,c2,hcell,hkid⟩:=Yq hk0 h2;have hck:=Wk h2;refine AU ?_;refine CP (Uae _ _ _ D _ (hkid.grow g) O) (fun w29 g29=>?_);have g:=g.trans g29;have gl1:=gl1.trans (g29);replace E:=E.grow g29;refine IF (fun h3=>?_) fun h3=>?_;(try simp only [bsimp] at h3);refine RTN ?_;refine ⟨Wog ?_,g⟩;rw [h1,Wtg,eq_comm,Ama];exact ⟨_,Aba h2,by rw [← Yz h2];simpa using h3⟩;refine AU ?_;refine SK [3,1] ?_;refine Ze (fun a ha=>?_);refine ⟨i+1,ha,⟨⟨h2,fun j h hj=>?_⟩,gl1⟩,O⟩;by_cases e:j=i;subst e;rw [← Yz h2];simpa using h3;exact hI1.2 j h O;refine RTN ?_;refine ⟨Wog ?_,g⟩;rw [h1,Wtg,eq_comm,Aea];intro x hx;obtain ⟨j,hj,rfl⟩:=Aka hx;exact hI1.2 j hj (by simp only [Wqg] at h2;omega)
def Wvb(t:Nd):Bool:=decide (t.kind=24) || decide (t.kind=25)
def numS(t:Nd):Int:=bif Wvb t then t.num else 0
def stripT(t:Nd):Nd:=para (fun t l=>.mk t.kind t.text (numS t) 0 l ty0 0 0) t
def plainT(t:Nd):Nd:=para (fun t l=>.mk t.kind t.text (numS t) t.pos l ty0 0 0) t
theorem Xba(t:Nd):plainT t = .mk t.kind t.text (numS t) t.pos (t.kids.map plainT) ty0 0 0:=Zla _ t
theorem Jbc(t:Nd):(plainT t).kids.length=t.kids.length:=by rw [Xba,Nd.kids,List.length_map]
theorem Vcd(t:Nd)(v:Ga):ndCells (plainT t) v=[.int .i64 t.kind,Str t.text,.int .i64 (numS t),.int .i64 t.pos,v,.int .i64 0,Str [],.int .i64 0,.int .i64 0]:=by rw [Xba];rfl
theorem Qcb(t:Nd):(plainT t).kids=t.kids.map plainT:=by rw [Xba];rfl
structure Vr where
  name:List UInt8
  typ:Ty
  num:Nat
  level:Nat
  scope:Nat
def vrCells(v:Vr):List Ga:=[Str v.name,.int .i64 v.typ.kind,Str v.typ.name,.int .i64 v.num,.int .i64 v.level,.int .i64 v.scope]
structure CSt where
  vars:List Vr
  scope:Nat
  level:Nat
  next:List Nat
  result:Ty
  ea:Int
  ee:Int
def failS(a e:Int)(S:CSt):CSt:=bif decide (S.ee=0) then { S with ea:=a,ee:=e } else S
def failU(b:Bool)(a e:Int)(S:CSt):CSt:=bif b then S else failS a e S
def clnT(t:Nd):Nd:=.mk t.kind t.text (numS t) t.pos [] ty0 0 0
def annT(t:Nd)(ks:List Nd)(y:Ty):Nd:=.mk t.kind t.text (numS t) t.pos ks y 0 0
def findK(kd:Int)(s:List UInt8):List Nd→Nat→Nd×Int
 | [],_=>(nd0,-1)
 | d::l,k=>bif decide (d.kind=kd) then (bif decide (d.text=s) then (d,(k:Int)) else findK kd s l (k+1)) else findK kd s l k
def findD(F:Nd)(kd:Int)(s:List UInt8):Nd×Int:=findK kd s F.kids 0
def pointerS(F n:Nd)(S:CSt):CSt:=bif decide (n.kind=8) then failU (!decide ((findD F 2 n.text).2<0)) n.pos 5 S else S
def localS(F n:Nd)(S:CSt):CSt:=failU (Ux (ofF n).1) n.pos 7 (pointerS F n S)
def openS(S:CSt):CSt:={ S with scope:=S.scope+1 }
def dropV(sc:Nat)(l:List Vr):List Vr:=(l.reverse.dropWhile fun v=>decide (v.scope=sc)).reverse
def shutS(S:CSt):CSt:={ S with vars:=dropV S.scope S.vars,scope:=S.scope-1 }
def dupV(S:CSt)(name:List UInt8):Bool:=S.vars.any fun v=>decide (v.scope=S.scope)&&decide (v.name=name)
def declN(S:CSt):Nat:=S.next.getD S.level 0
def declS(name:List UInt8)(y:Ty)(a:Int)(S:CSt):CSt :=
 let S1:=failU (!dupV S name) a 6 S
 { S1 with next:=S.next.set S.level (declN S+1),vars:=S.vars++[⟨name,y,declN S,S.level,S.scope⟩] }
def findV(l:List Vr)(s:List UInt8):Option Vr:=l.reverse.find? fun v=>decide (v.name=s)
def fncTy(d:Nd):Ty:=bif decide (((Zb d 0).kids.length:Int)=0)&&decide ((Zb d 1).kind=9) then tFunc else ty0
def lookR(F:Nd)(S:CSt)(n:Nd):Nd×Bool :=
 match findV S.vars n.text with
 | some v=>(.mk n.kind n.text v.num n.pos [] v.typ 1 ((S.level:Int)-v.level),true)
 | none =>
  bif decide (0≤(findD F 6 n.text).2) then (.mk n.kind n.text (findD F 6 n.text).2 n.pos [] (ofF (Zb (findD F 6 n.text).1 0)).1 2 0,true)
  else bif decide (0≤(findD F 4 n.text).2) then (.mk n.kind n.text (findD F 4 n.text).2 n.pos [] (fncTy (findD F 4 n.text).1) 3 0,true)
  else (clnT n,false)
structure Ck where
  ex:CSt→Nd×CSt
  mem:CSt→(Nd×Bool)×CSt
  rcv:CSt→Nd×Bool
  cal:CSt→(Nd×List Ty×Ty)×CSt
  st:CSt→Nd×CSt
  blk:CSt→Nd×CSt
  ifs:CSt→Nd×CSt
  sts:CSt→Nd×CSt
  cas:Bool→CSt→Nd×CSt
def ck0:Ck:=⟨fun S=>(nd0,S),fun S=>((nd0,false),S),fun _=>(nd0,false),fun S=>((nd0,[],ty0),S),fun S=>(nd0,S),fun S=>(nd0,S),fun S=>(nd0,S),fun S=>(nd0,S),fun _ S=>(nd0,S)⟩
def wantS(x:Nd)(k a:Int)(S:CSt):CSt:=failU (decide (x.ty.kind=k)) a 7 S
section
variable (F n:Nd) (x:Nat→Ck)
def memR(S:CSt):(Nd×Bool)×CSt :=
 let a:=(x 0).ex S
 bif decide (a.1.ty.kind=4) then
  match (Ut F a.1.ty.name).1.find? fun f=>decide (f.name=n.text) with
  | some f=>((annT n [a.1] f.ty,true),a.2)
  | none=>((annT n [a.1] ty0,false),failS n.pos 5 a.2)
 else ((annT n [a.1] ty0,false),failS n.pos 7 a.2)
def rcvR(S:CSt):Nd×Bool :=
 bif decide (n.kind=27) then ((lookR F S n).1,((lookR F S n).2&&decide ((lookR F S n).1.ref=2))&&decide (8≤(lookR F S n).1.ty.kind))
 else bif decide (n.kind=28) then ((memR F n x S).1.1,((memR F n x S).1.2&&decide ((memR F n x S).2.ee=0))&&decide (8≤(memR F n x S).1.1.ty.kind))
 else (nd0,false)
def argA(ps:List Ty)(S:CSt):Nat→List Nd×CSt
 | 0=>([],S)
 | i+1 =>
  let a:=argA ps S i
  let e:=(x (i+1)).ex a.2
  (a.1++[e.1],failU (!(decide (i<ps.length) && !Us (ps.getD i ty0) e.1.ty)) (Zb n (i+1)).pos 7 e.2)
def callR(S:CSt):Nd×CSt :=
 let c:=(x 0).cal S
 let a:=argA n x c.1.2.1 (failU (decide ((n.kids.length:Int)-1=c.1.2.1.length)) n.pos 7 c.2) (n.kids.length-1)
 (annT n (c.1.1::a.1) c.1.2.2,a.2)
def litS(S:CSt):CSt:={ S with result:=ty0,level:=S.level+1,next:=S.next.take (S.level+1)++[0] }
def litR(S:CSt):Nd×CSt :=
 let b:=(x 0).blk (litS S)
 (annT n [b.1] tFunc,{ b.2 with level:=b.2.level-1,result:=S.result })
def unTy:Ty:=bif decide (n.text=[33]) then tBool else tInt
def opR(S:CSt):Nd×CSt :=
 let a:=(x 0).ex S
 bif decide (n.kind=29) then
  let b:=(x 1).ex (wantS a.1 5 (Zb n 0).pos a.2)
  (annT n [a.1,b.1] tInt,wantS b.1 1 (Zb n 1).pos b.2)
 else bif decide (n.kind=31) then (annT n [a.1] (unTy n),wantS a.1 (unTy n).kind n.pos a.2)
 else bif decide (n.kind=32) then
  let b:=(x 1).ex a.2
  (annT n [a.1,b.1] (binT n.text a.1.ty b.1.ty).1,failU (binT n.text a.1.ty b.1.ty).2 n.pos 7 b.2)
 else bif decide (n.kind=33) then (annT n [a.1] tInt,wantS a.1 6 n.pos a.2)
 else bif decide (n.kind=37) then (annT n [a.1] tInt,wantS a.1 5 (Zb n 0).pos a.2)
 else bif decide (n.kind=35) then (annT n [a.1] ⟨5,[]⟩,wantS a.1 1 (Zb n 0).pos a.2)
 else bif decide (n.kind=36) then (annT n [a.1] ⟨6,[]⟩,wantS a.1 1 (Zb n 0).pos a.2)
 else (annT n [a.1] ty0,a.2)
def exR(S:CSt):Nd×CSt :=
 bif decide (n.kind=24) then (annT n [] tInt,S)
 else bif decide (n.kind=25) then (annT n [] tBool,S)
 else bif decide (n.kind=26) then (annT n [] tNil,S)
 else bif decide (n.kind=38) then litR n x S
 else bif decide (n.kind=30) then callR n x S
 else bif decide (n.kind=27) then ((lookR F S n).1,bif (lookR F S n).2 then failU (Ux (lookR F S n).1.ty) n.pos 7 S else failS n.pos 5 S)
 else bif decide (n.kind=28) then ((memR F n x S).1.1,failU (!((memR F n x S).1.2 && !Ux (memR F n x S).1.1.ty)) n.pos 7 (memR F n x S).2)
 else bif decide (n.kind=34) then (annT n [] ⟨4,n.text⟩,failU (!decide ((findD F 2 n.text).2<0)) n.pos 5 S)
 else opR n x S
def rcvX(S:CSt):Nd×CSt:=bif decide ((Zb n 0).kind=28) then (((x 0).mem S).1.1,((x 0).mem S).2) else (((x 0).rcv S).1,S)
def calR(S:CSt):(Nd×List Ty×Ty)×CSt :=
 bif decide (n.kind=28)&&((x 0).rcv S).2 then
  let r:=rcvX n x S
  ((annT n [r.1] ty0,(mthF r.1.ty n.text).1,(mthF r.1.ty n.text).2.1),failU (mthF r.1.ty n.text).2.2 n.pos 5 r.2)
 else bif decide (n.kind=27)&&((lookR F S n).2&&decide ((lookR F S n).1.ref=3)) then
  (((lookR F S n).1,(Zb (findD F 4 n.text).1 0).kids.map (fun p=>(ofF (Zb p 0)).1),(ofF (Zb (findD F 4 n.text).1 1)).1),S)
 else
  let a:=exR F n x S
  ((a.1,[],ty0),failU (tyEqB a.1.ty tFunc) n.pos 7 a.2)
def stA(S:CSt):Nat→List Nd×CSt
 | 0=>([],S)
 | i+1 =>
  let a:=stA S i
  let e:=(x i).st a.2
  (a.1++[e.1],e.2)
def stsR(S:CSt):Nd×CSt:=(annT n (stA x S n.kids.length).1 ty0,(stA x S n.kids.length).2)
def blkR(S:CSt):Nd×CSt:=((stsR n x (openS S)).1,shutS (stsR n x (openS S)).2)
def condR(k:Nd)(y:Ck)(S:CSt):Nd×CSt :=
 bif decide (k.kind=9) then (clnT k,S) else ((y.ex S).1,wantS (y.ex S).1 2 k.pos (y.ex S).2)
def ifR(S:CSt):Nd×CSt :=
 let a:=condR (Zb n 0) (x 0) S
 let b:=(x 1).blk a.2
 let e:=bif decide ((Zb n 2).kind=10) then (x 2).blk b.2 else bif decide ((Zb n 2).kind=18) then (x 2).ifs b.2 else (clnT (Zb n 2),b.2)
 (annT n [a.1,b.1,e.1] ty0,e.2)
def asgR(S:CSt):Nd×CSt :=
 let a:=(x 0).ex S
 let b:=(x 1).ex (failU (((decide (a.1.kind=27) && !decide (a.1.ref=3)) || decide (a.1.kind=28)) || decide (a.1.kind=29)) (Zb n 0).pos 7 a.2)
 (annT n [a.1,b.1] ty0,failU (Us a.1.ty b.1.ty) (Zb n 1).pos 7 b.2)
def casR(first:Bool)(S:CSt):Nd×CSt :=
 let a:=bif decide ((Zb n 0).kind=9) then (clnT (Zb n 0),failU first n.pos 6 (openS S)) else (x 0).st (openS S)
 let b:=(x 1).sts a.2
 (annT n [a.1,b.1] ty0,shutS b.2)
def selA(S:CSt):Nat→List Nd×Bool×CSt
 | 0=>([],true,S)
 | i+1 =>
  let a:=selA S i
  let e:=(x i).cas a.2.1 a.2.2
  (a.1++[e.1],a.2.1 && !decide ((Zb (Zb n i) 0).kind=9),e.2)
def selR(S:CSt):Nd×CSt:=(annT n (selA n x S n.kids.length).1 ty0,(selA n x S n.kids.length).2.2)
def dclT(ks:List Nd)(k:Nat):Nd:=.mk n.kind n.text k n.pos ks ty0 1 0
def varR(S:CSt):Nd×CSt :=
 let a:=bif decide ((Zb n 1).kind=9) then (clnT (Zb n 1),localS F (Zb n 0) S) else (((x 1).ex (localS F (Zb n 0) S)).1,failU (Us (ofF (Zb n 0)).1 ((x 1).ex (localS F (Zb n 0) S)).1.ty) (Zb n 1).pos 7 ((x 1).ex (localS F (Zb n 0) S)).2)
 (dclT n [plainT (Zb n 0),a.1] (declN a.2),declS n.text (ofF (Zb n 0)).1 n.pos a.2)
def defR(S:CSt):Nd×CSt :=
 let a:=(x 0).ex S
 let S1:=failU (Ux a.1.ty) (Zb n 0).pos 7 a.2
 (dclT n [a.1] (declN S1),declS n.text a.1.ty n.pos S1)
def forR(S:CSt):Nd×CSt :=
 let a:=condR (Zb n 0) (x 0) S
 let b:=(x 1).blk a.2
 (annT n [a.1,b.1] ty0,b.2)
def retR(S:CSt):Nd×CSt :=
 let S1:=failU (!Bool.xor (decide ((n.kids.length:Int)=1)) (!tyEqB S.result ty0)) n.pos 7 S
 bif decide ((n.kids.length:Int)=1) then
  (annT n [((x 0).ex S1).1] ty0,failU (Us ((x 0).ex S1).2.result ((x 0).ex S1).1.ty) (Zb n 0).pos 7 ((x 0).ex S1).2)
 else (annT n [] ty0,S1)
def stR(S:CSt):Nd×CSt :=
 bif decide (n.kind=10) then blkR n x S
 else bif decide (n.kind=18) then ifR n x S
 else bif decide (n.kind=12) then asgR n x S
 else bif decide (n.kind=22) then selR n x S
 else bif decide (n.kind=6) then varR F n x S
 else bif decide (n.kind=11) then defR n x S
 else bif decide (n.kind=19) then forR n x S
 else bif decide (n.kind=20) then retR n x S
 else
  let a:=(x 0).ex S
  bif decide (n.kind=16) then
   let b:=(x 1).ex (wantS a.1 6 (Zb n 0).pos a.2)
   (annT n [a.1,b.1] ty0,wantS b.1 1 (Zb n 1).pos b.2)
  else bif decide (n.kind=17) then (annT n [a.1] ty0,wantS a.1 6 (Zb n 0).pos a.2)
  else bif decide (n.kind=21) then (annT n [a.1] ty0,failU (decide (a.1.ty.kind=1) || decide (a.1.ty.kind=2)) (Zb n 0).pos 7 a.2)
  else (annT n [a.1] ty0,a.2)
end
def ckF(F t:Nd)(x:Nat→Ck):Ck:=⟨exR F t x,memR F t x,rcvR F t x,calR F t x,stR F t x,blkR t x,ifR t x,stsR t x,casR t x⟩
def ckT(F t:Nd):Ck:=para (fun t l=>ckF F t fun i=>l.getD i ck0) t
def ckX(F t:Nd)(i:Nat):Ck:=(t.kids.map (ckT F)).getD i ck0
theorem Zha(F t:Nd):ckT F t=ckF F t (ckX F t):=Zla _ t
theorem Wl{F t:Nd}{i:Nat}(h:i<t.kids.length):ckX F t i=ckT F (Zb t i):=by
 rw [ckX,Yz h];simp [Afa,Bea h]
/-! the file -/
def parA(F p:Nd)(S:CSt):Nat→List Nd×CSt
 | 0=>([],S)
 | i+1 =>
  let a:=parA F p S i
  let f:=Zb p i
  (a.1++[.mk f.kind f.text (declN a.2) f.pos (f.kids.map plainT) ty0 1 0],localS F (Zb f 0) (declS f.text (ofF (Zb f 0)).1 f.pos a.2))
def endP(t:Nd)(l:List (Bool×Bool)):Bool×Bool :=
 (bif decide (t.kind=20) then true
  else bif decide (t.kind=19) then decide ((Zb t 0).kind=9)
  else bif decide (t.kind=10) then (l.getLast?.getD (false,false)).1
  else bif decide (t.kind=18) then (l.getD 1 (false,false)).2&&((decide ((Zb t 2).kind=10)&&(l.getD 2 (false,false)).2) || (decide ((Zb t 2).kind=18)&&(l.getD 2 (false,false)).1))
  else false,(l.getLast?.getD (false,false)).1)
def endT(t:Nd):Bool×Bool:=para endP t
theorem Yca(t:Nd):endT t=endP t (t.kids.map endT):=Zla _ t
def endsL(l:List Nd):Bool:=((l.map endT).getLast?.getD (false,false)).1
theorem Yqd(t:Nd):(endT t).2=endsL t.kids:=by rw [Yca];rfl
def funS0(S:CSt):CSt:={ S with vars:=[],scope:=0,level:=0,next:=[0] }
def funS1(F n:Nd)(S:CSt):CSt:={ (parA F (Zb n 0) (funS0 S) (Zb n 0).kids.length).2 with result:=ty0 }
def funS2(F n:Nd)(S:CSt):CSt:=bif decide ((Zb n 1).kind=9) then funS1 F n S else { localS F (Zb n 1) (funS1 F n S) with result:=(ofF (Zb n 1)).1 }
def funR(F n:Nd)(S:CSt):Nd×CSt :=
 let b:=(ckT F (Zb n 2)).sts (funS2 F n S)
 (annT n [annT (Zb n 0) (parA F (Zb n 0) (funS0 S) (Zb n 0).kids.length).1 ty0,plainT (Zb n 1),b.1] ty0,
  failU (decide ((Zb n 1).kind=9) || endsL (Zb n 2).kids) n.pos 7 b.2)
def dupAt(n:Nd)(i:Nat):Bool:=(n.kids.take i).any fun k=>decide (k.text=(Zb n i).text)
def namA(n:Nd)(S:CSt):Nat→CSt
 | 0=>S
 | i+1=>failU (!dupAt n i) (Zb n i).pos 6 (namA n S i)
def strA(F n:Nd)(S:CSt):Nat→CSt
 | 0=>S
 | i+1=>pointerS F (Zb (Zb n i) 0) (failU (!dupAt n i) (Zb n i).pos 6 (strA F n S i))
def dclR(F n:Nd)(S:CSt):Nd×CSt :=
 bif decide (n.kind=2) then (plainT n,strA F n S n.kids.length)
 else bif decide (n.kind=6) then (plainT n,pointerS F (Zb n 0) S)
 else bif decide (n.kind=4) then funR F n S
 else (plainT n,S)
def dclA(F:Nd)(S:CSt):Nat→List Nd×CSt
 | 0=>([],S)
 | i+1 =>
  let a:=dclA F S i
  let e:=dclR F (Zb F i) a.2
  (a.1++[e.1],e.2)
def rs0:CSt:=⟨[],0,0,[],ty0,0,0⟩
def mainS(F:Nd)(S:CSt):CSt :=
 bif decide ((findD F 4 [109,97,105,110]).2<0) then failS 0 5 S
 else bif decide (0<((Zb (findD F 4 [109,97,105,110]).1 0).kids.length:Int)) || !decide ((Zb (findD F 4 [109,97,105,110]).1 1).kind=9) then failS (findD F 4 [109,97,105,110]).1.pos 7 S else S
def refS(F:Nd):CSt:=mainS F (dclA F (namA F rs0 F.kids.length) F.kids.length).2
def refA(F:Nd):Nd:=annT F (dclA F (namA F rs0 F.kids.length) F.kids.length).1 ty0
def refCheck(F:Nd):Nd×Int×Int :=
 bif validB F then (bif decide ((refS F).ee=0) then (refA F,0,0) else (nd0,(refS F).ea,(refS F).ee)) else (nd0,0,1)
structure Bd (S:CSt) (N:Nat):Prop where
  vl:S.vars.length≤N
  nl:S.next.length≤N+1
  nx:∀ k∈S.next,k≤N
  lv:S.level<S.next.length
  sc:S.scope≤N
  vs:∀ v∈S.vars,v.num≤N∧v.level≤N∧v.scope≤N
theorem Bd.mono{S:CSt}{N M:Nat}(h:Bd S N)(hm:N≤M):Bd S M :=
 ⟨Aga h.vl hm,by have:=h.nl;omega,fun k hk=>Aga (h.nx k hk) hm,h.lv,Aga h.sc hm,fun v hv=>by have:=h.vs v hv;omega⟩
structure Stp (d:Nat) (S S':CSt):Prop where
  level:S'.level=S.level
  scope:S'.scope=S.scope
  result:S'.result=S.result
  ers:S.ee≠0→S'.ee=S.ee∧S'.ea=S.ea
  bd:∀ N,Bd S N→Bd S' (N+d)
theorem Stp.er{d:Nat}{S S':CSt}(h:Stp d S S')(h0:S'.ee=0):S.ee=0:=Decidable.byContradiction fun hn=>hn ((h.ers hn).1.symm.trans h0)
theorem Stp.refl(S:CSt):Stp 0 S S:=⟨rfl,rfl,rfl,fun _=>⟨rfl,rfl⟩,fun N h=>h⟩
theorem Stp.trans{a b:Nat}{S T U:CSt}(h:Stp a S T)(k:Stp b T U):Stp (a+b) S U :=
 ⟨k.level.trans h.level,k.scope.trans h.scope,k.result.trans h.result,fun he=>⟨(k.ers (by rw [(h.ers he).1];exact he)).1.trans (h.ers he).1,(k.ers (by rw [(h.ers he).1];exact he)).2.trans (h.ers he).2⟩,fun N hN=>by have:=k.bd _ (h.bd N hN);rwa [Nat.add_assoc] at this⟩
theorem Stp.mono{a b:Nat}{S T:CSt}(h:Stp a S T)(hb:a≤b):Stp b S T:=⟨h.level,h.scope,h.result,h.ers,fun N hN=>(h.bd N hN).mono O⟩
theorem Stp.of{S T:CSt}(h1:T.vars=S.vars)(h2:T.scope=S.scope)(h3:T.level=S.level)(h4:T.next=S.next)(h5:T.result=S.result)(h6:S.ee≠0→T.ee=S.ee∧T.ea=S.ea):Stp 0 S T :=
 ⟨h3,h2,h5,h6,fun N h=>⟨by rw [h1];exact h.vl,by rw [h4];exact h.nl,by rw [h4];exact h.nx,by rw [h3,h4];exact h.lv,by rw [h2];exact h.sc,by rw [h1];exact h.vs⟩⟩
theorem Qu(a e:Int)(S:CSt):(failS a e S).vars=S.vars∧(failS a e S).scope=S.scope∧(failS a e S).level=S.level∧(failS a e S).next=S.next∧(failS a e S).result=S.result∧(S.ee≠0→(failS a e S).ee=S.ee∧(failS a e S).ea=S.ea):=by
 unfold failS;cases h:decide (S.ee=0);exact ⟨rfl,rfl,rfl,rfl,rfl,fun _=>⟨rfl,rfl⟩⟩;exact ⟨rfl,rfl,rfl,rfl,rfl,fun hn=>absurd (Wrg h) hn⟩
theorem Qd(b:Bool)(a e:Int)(S:CSt):(failU b a e S).vars=S.vars∧(failU b a e S).scope=S.scope∧(failU b a e S).level=S.level∧(failU b a e S).next=S.next∧(failU b a e S).result=S.result∧(S.ee≠0→(failU b a e S).ee=S.ee∧(failU b a e S).ea=S.ea):=by
 unfold failU;cases b;exact Qu a e S;exact ⟨rfl,rfl,rfl,rfl,rfl,fun _=>⟨rfl,rfl⟩⟩
theorem Jcc(a e:Int)(S:CSt):Stp 0 S (failS a e S):=by obtain ⟨h1,h2,h3,h4,h5,h6⟩:=Qu a e S;exact Stp.of h1 h2 h3 h4 h5 h6
theorem Jdc(b:Bool)(a e:Int)(S:CSt):Stp 0 S (failU b a e S):=by obtain ⟨h1,h2,h3,h4,h5,h6⟩:=Qd b a e S;exact Stp.of h1 h2 h3 h4 h5 h6
theorem Stp.fail{d:Nat}{S T:CSt}(h:Stp d S T)(a e:Int):Stp d S (failS a e T):=h.trans (Jcc a e T)
theorem Stp.failu{d:Nat}{S T:CSt}(h:Stp d S T)(b:Bool)(a e:Int):Stp d S (failU b a e T):=h.trans (Jdc b a e T)
theorem Stp.cond{d:Nat}{S T U:CSt}{b:Bool}(h:Stp d S T)(k:Stp d S U):Stp d S (bif b then T else U):=by cases b <;> assumption
theorem Vdd(F n:Nd)(S:CSt):Stp 0 S (pointerS F n S):=((Stp.refl S).failu _ _ _).cond (Stp.refl S)
theorem Wwb(F n:Nd)(S:CSt):Stp 0 S (localS F n S):=(Vdd F n S).failu _ _ _
theorem Vzf{l:List Nat}{i:Nat}{a x:Nat}(h:x∈l.set i a):x∈l∨x=a:=List.mem_or_eq_of_mem_set h
theorem Zff{S:CSt}{N:Nat}(h:Bd S N):declN S≤N:=by
 have hl:=h.lv;have:declN S=S.next[S.level]:=by rw [declN,Afa,Bea hl];rfl
 rw [this];exact h.nx _ (Aba hl)
theorem Xyb(s:List UInt8)(y:Ty)(a:Int)(S:CSt):Stp 1 S (declS s y a S):=by
 have hq:=Qd (!dupV S s) a 6 S;refine ⟨hq.2.2.1,hq.2.1,hq.2.2.2.2.1,hq.2.2.2.2.2,fun N h=>?_⟩;have hd:=Zff h;refine ⟨?_,?_,?_,?_,?_,?_⟩;show (S.vars++[_]).length≤_;have:=h.vl;simp;omega;show (S.next.set _ _).length≤_;have:=h.nl;simp;omega;intro k hk;rcases Vzf (show k∈S.next.set S.level (declN S+1) from hk) with h1|h1;have:=h.nx k h1;omega;omega;show (failU (!dupV S s) a 6 S).level<(S.next.set _ _).length;rw [hq.2.2.1];have:=h.lv;simp;omega;show (failU (!dupV S s) a 6 S).scope≤_;rw [hq.2.1];have:=h.sc;omega;intro v hv;have hv:v∈S.vars++[⟨s,y,declN S,S.level,S.scope⟩]:=hv;rcases Ara.1 hv with h1|h1;have:=h.vs v h1;omega;obtain rfl:=Bfa.1 h1;have h2:=h.lv;have h3:=h.nl;have h4:=h.sc;exact ⟨by show declN S≤_;omega,by show S.level≤_;omega,by show S.scope≤_;omega⟩
theorem Ude(sc:Nat)(l:List Vr):(dropV sc l).length≤l.length:=by
 unfold dropV;rw [Bpa];have h:(l.reverse.dropWhile fun v=>decide (v.scope=sc)).length≤l.reverse.length:=(Bqa _).length_le;rwa [Bpa] at h
theorem Uee{sc:Nat}{l:List Vr}{v:Vr}(h:v∈dropV sc l):v∈l:=by
 unfold dropV at h;exact Asa.1 ((Bqa _).subset (Asa.1 h))
theorem Jec{d:Nat}{S T:CSt}(h:Stp d (openS S) T):Stp (1+d) S (shutS T):=by
 refine ⟨h.level,?_,h.result,h.ers,fun N hN=>?_⟩;show T.scope-1=S.scope;rw [h.scope];rfl;have h1:Bd (openS S) (N+1):=⟨by have:=hN.vl;show S.vars.length≤_;omega,by have:=hN.nl;show S.next.length≤_;omega,fun k hk=>by have:=hN.nx k hk;omega,hN.lv,by have:=hN.sc;show S.scope+1≤_;omega,fun v hv=>by have:=hN.vs v hv;omega⟩;have h2:=h.bd _ h1;rw [show N+1+d=N+(1+d) by omega] at h2;refine ⟨Aga (Ude _ _) h2.vl,h2.nl,h2.nx,h2.lv,Aga (Nat.sub_le _ _) h2.sc,fun v hv=>h2.vs v (Uee hv)⟩
theorem Zgf{S:CSt}{N:Nat}(h:Bd S N):Bd (litS S) (N+1):=by
 have hl:=h.lv;have hn:=h.nl;refine ⟨by have:=h.vl;show S.vars.length≤_;omega,?_,?_,?_,by have:=h.sc;show S.scope≤_;omega,fun v hv=>by have:=h.vs v hv;omega⟩;show (S.next.take (S.level+1)++[0]).length≤_;simp;omega;intro k hk;rcases Ara.1 (show k∈S.next.take (S.level+1)++[0] from hk) with h1|h1;have:=h.nx k (Boa h1);omega;simp at h1;omega;show S.level+1<(S.next.take (S.level+1)++[0]).length;simp;omega
theorem Uaf{d:Nat}{S T:CSt}(h:Stp d (litS S) T):Stp (1+d) S { T with level:=T.level-1,result:=S.result }:=by
 have hl:T.level=S.level+1:=h.level;refine ⟨by show T.level-1=_;omega,h.scope,rfl,h.ers,fun N hN=>?_⟩;have h2:=h.bd _ (Zgf hN);rw [show N+1+d=N+(1+d) by omega] at h2;exact ⟨h2.vl,h2.nl,h2.nx,by have:=h2.lv;show T.level-1<T.next.length;omega,h2.sc,h2.vs⟩
/-! children's counts -/
def cN(t:Nd)(i:Nat):Nat:=(t.kids.map count).getD i 0
def sC(t:Nd):Nat→Nat
 | 0=>0
 | i+1=>sC t i+cN t i
theorem sC_eq(t:Nd)(i:Nat):sC t i=((t.kids.map count).take i).sum:=by
 induction i with
 | zero=>rfl
 | succ i ih =>
  rw [sC,ih,List.take_add_one,cN,Afa,List.sum_append];cases (t.kids.map count)[i]? <;> simp
theorem Vsa(t:Nd)(i:Nat):sC t i+1≤count t:=by
 rw [sC_eq,Qi];have:=Xbc (t.kids.map count) i;omega
theorem Xra{t:Nd}{i:Nat}(h:i<t.kids.length):cN t i=count (Zb t i):=by
 rw [cN,Yz h];simp [Afa,Bea h]
structure CkS (c:Ck) (d:Nat):Prop where
  ex:∀ S,Stp d S (c.ex S).2
  mem:∀ S,Stp d S (c.mem S).2
  cal:∀ S,Stp d S (c.cal S).2
  st:∀ S,Stp d S (c.st S).2
  blk:∀ S,Stp d S (c.blk S).2
  ifs:∀ S,Stp d S (c.ifs S).2
  sts:∀ S,Stp d S (c.sts S).2
  cas:∀ f S,Stp d S (c.cas f S).2
theorem Jqf:CkS ck0 0:=⟨fun S=>Stp.refl S,fun S=>Stp.refl S,fun S=>Stp.refl S,fun S=>Stp.refl S,fun S=>Stp.refl S,fun S=>Stp.refl S,fun S=>Stp.refl S,fun _ S=>Stp.refl S⟩
section
variable {F t:Nd} {x:Nat→Ck}
theorem Ype(X:∀ i,CkS (x i) (cN t i))(S:CSt):Stp (sC t 1) S (memR F t x S).2:=by
 have h:Stp (sC t 1) S ((x 0).ex S).2:=((X 0).ex S).mono (by simp [sC]);unfold memR;dsimp only;cases decide (((x 0).ex S).1.ty.kind=4);exact h.fail _ _;simp only [Wug];split;exact h;exact h.fail _ _
theorem Yrd(X:∀ i,CkS (x i) (cN t i))(ps:List Ty){S T:CSt}(h:Stp (sC t 1) S T):∀ i,Stp (sC t (i+1)) S (argA t x ps T i).2
 | 0=>h
 | i+1=>((Yrd X ps h i).trans ((X (i+1)).ex _)).failu _ _ _
theorem Zhf(X:∀ i,CkS (x i) (cN t i))(S:CSt):Stp (sC t (t.kids.length-1+1)) S (callR t x S).2 :=
 Yrd X _ ((((X 0).cal S).mono (by simp [sC])).failu _ _ _) _
theorem Zif(X:∀ i,CkS (x i) (cN t i))(S:CSt):Stp (1+sC t 1) S (litR t x S).2:=Uaf (((X 0).blk _).mono (by simp [sC]))
theorem Xyc(X:∀ i,CkS (x i) (cN t i))(S:CSt):Stp (sC t 1) S ((x 0).ex S).2:=((X 0).ex S).mono (by simp [sC])
theorem Zvg(X:∀ i,CkS (x i) (cN t i))(S:CSt):Stp (sC t 2) S (opR t x S).2:=by
 have h:=Xyc X S;have h1:∀ T,Stp (sC t 1) S T→Stp (sC t 2) S ((x 1).ex T).2:=fun T hT=>hT.trans ((X 1).ex T);have hm:∀ {T},Stp (sC t 1) S T→Stp (sC t 2) S T:=fun hT=>hT.mono (Nat.le_add_right _ _);unfold opR;dsimp only [wantS];repeat' (first|(generalize decide (t.kind=_)=q;cases q <;> simp only [Wug,Wtg]))
 all_goals first
  | exact (h1 _ (h.failu _ _ _)).failu _ _ _
  | exact (h1 _ h).failu _ _ _
  | exact hm (h.failu _ _ _)
  | exact hm h
theorem Yqe(X:∀ i,CkS (x i) (cN t i))(S:CSt):Stp (count t) S (exR F t x S).2:=by
 have hc:∀ i,sC t i+1≤count t:=Vsa t;have h0:∀ {T},Stp 0 S T→Stp (count t) S T:=fun h=>h.mono (Aca _);unfold exR;cases decide (t.kind=24);case true=>exact h0 (Stp.refl S)
 cases decide (t.kind=25);case true=>exact h0 (Stp.refl S)
 cases decide (t.kind=26);case true=>exact h0 (Stp.refl S)
 cases decide (t.kind=38);case true=>exact (Zif X S).mono (by have:=hc 1;omega)
 cases decide (t.kind=30);case true=>exact (Zhf X S).mono (by have:=hc (t.kids.length-1+1);omega)
 cases decide (t.kind=27);case true=>exact h0 (((Stp.refl S).failu _ _ _).cond ((Stp.refl S).fail _ _))
 cases decide (t.kind=28);case true=>exact ((Ype X S).failu _ _ _).mono (by have:=hc 1;omega)
 cases decide (t.kind=34);case true=>exact h0 ((Stp.refl S).failu _ _ _)
 exact (Zvg X S).mono (by have:=hc 2;omega)
theorem Ubf(X:∀ i,CkS (x i) (cN t i))(S:CSt):Stp (count t) S (calR F t x S).2:=by
 have hc:=Vsa t 1;unfold calR;dsimp only;cases decide (t.kind=28)&&((x 0).rcv S).2;simp only [Wtg];cases decide (t.kind=27)&&((lookR F S t).2&&decide ((lookR F S t).1.ref=3));exact (Yqe X S).failu _ _ _;exact (Stp.refl S).mono (Aca _);refine Stp.failu ?_ _ _ _;unfold rcvX;cases decide ((Zb t 0).kind=28);exact (Stp.refl S).mono (Aca _);exact ((X 0).mem S).mono (by simp [sC] at hc;omega)
theorem Ysd(X:∀ i,CkS (x i) (cN t i))(S:CSt):∀ i,Stp (sC t i) S (stA x S i).2
 | 0=>Stp.refl S
 | i+1=>(Ysd X S i).trans ((X i).st _)
theorem Yre(X:∀ i,CkS (x i) (cN t i))(S:CSt):Stp (sC t t.kids.length) S (stsR t x S).2:=Ysd X S _
theorem Xzc(X:∀ i,CkS (x i) (cN t i))(S:CSt):Stp (count t) S (blkR t x S).2:=(Jec (Yre X (openS S))).mono (by have:=Vsa t t.kids.length;omega)
theorem Ved(X:∀ i,CkS (x i) (cN t i))(k:Nd){S T:CSt}(h:Stp 0 S T):Stp (sC t 1) S (condR k (x 0) T).2:=by
 unfold condR;cases decide (k.kind=9);exact (h.trans ((X 0).ex T)).mono (by simp [sC]) |>.failu _ _ _
 exact h.mono (Aca _)
theorem Zjf(X:∀ i,CkS (x i) (cN t i))(S:CSt):Stp (sC t 3) S (ifR t x S).2:=by
 have h1:Stp (sC t 2) S ((x 1).blk (condR (Zb t 0) (x 0) S).2).2:=(Ved X _ (Stp.refl S)).trans ((X 1).blk _);unfold ifR;dsimp only;cases decide ((Zb t 2).kind=10);cases decide ((Zb t 2).kind=18);exact h1.mono (Nat.le_add_right _ _);exact h1.trans ((X 2).ifs _);exact h1.trans ((X 2).blk _)
theorem Ucf(X:∀ i,CkS (x i) (cN t i))(S:CSt):Stp (sC t 2) S (asgR t x S).2:=(((Xyc X S).failu _ _ _).trans ((X 1).ex _)).failu _ _ _
theorem Ytd(X:∀ i,CkS (x i) (cN t i))(f:Bool)(S:CSt):Stp (1+sC t 2) S (casR t x f S).2:=by
 refine Jec (Stp.trans (a:=sC t 1) (T:=(bif decide ((Zb t 0).kind=9) then (clnT (Zb t 0),failU f t.pos 6 (openS S)) else (x 0).st (openS S)).2) ?_ ((X 1).sts _));cases decide ((Zb t 0).kind=9);exact ((X 0).st _).mono (by simp [sC]);exact ((Stp.refl _).failu _ _ _).mono (Aca _)
theorem Vlc(X:∀ i,CkS (x i) (cN t i))(S:CSt):∀ i,Stp (sC t i) S (selA t x S i).2.2
 | 0=>Stp.refl S
 | i+1=>(Vlc X S i).trans ((X i).cas _ _)
theorem Udf(X:∀ i,CkS (x i) (cN t i))(S:CSt):Stp (1+sC t 2) S (varR F t x S).2:=by
 unfold varR;dsimp only;cases decide ((Zb t 1).kind=9);exact (((((Wwb F _ S).trans ((X 1).ex _)).failu _ _ _).trans (Xyb _ _ _ _)).mono (by simp [sC];omega));exact ((Wwb F _ S).trans (Xyb _ _ _ _)).mono O
theorem Uef(X:∀ i,CkS (x i) (cN t i))(S:CSt):Stp (1+sC t 1) S (defR t x S).2:=(((Xyc X S).failu _ _ _).trans (Xyb _ _ _ _)).mono O
theorem Uff(X:∀ i,CkS (x i) (cN t i))(S:CSt):Stp (sC t 2) S (forR t x S).2:=(Ved X _ (Stp.refl S)).trans ((X 1).blk _)
theorem Ugf(X:∀ i,CkS (x i) (cN t i))(S:CSt):Stp (sC t 1) S (retR t x S).2:=by
 unfold retR;dsimp only;cases decide ((t.kids.length:Int)=1);exact ((Stp.refl S).failu _ _ _).mono (Aca _);exact ((((Stp.refl S).failu _ _ _).trans ((X 0).ex _)).mono (by simp [sC])).failu _ _ _
theorem Uhf(X:∀ i,CkS (x i) (cN t i))(S:CSt):Stp (count t) S (stR F t x S).2:=by
 have hc:∀ i,sC t i+1≤count t:=Vsa t;unfold stR;dsimp only;cases decide (t.kind=10);case true=>exact Xzc X S
 cases decide (t.kind=18);case true=>exact (Zjf X S).mono (by have:=hc 3;omega)
 cases decide (t.kind=12);case true=>exact (Ucf X S).mono (by have:=hc 2;omega)
 cases decide (t.kind=22);case true=>exact (Vlc X S _).mono (by have:=hc t.kids.length;omega)
 cases decide (t.kind=6);case true=>exact (Udf X S).mono (by have:=hc 2;omega)
 cases decide (t.kind=11);case true=>exact (Uef X S).mono (by have:=hc 1;omega)
 cases decide (t.kind=19);case true=>exact (Uff X S).mono (by have:=hc 2;omega)
 cases decide (t.kind=20);case true=>exact (Ugf X S).mono (by have:=hc 1;omega)
 have h:=Xyc X S;simp only [Wtg,wantS];cases decide (t.kind=16);case true=>exact (((h.failu _ _ _).trans ((X 1).ex _)).failu _ _ _).mono (by have:=hc 2;simp only [sC] at this ⊢;omega)
 cases decide (t.kind=17);case true=>exact (h.failu _ _ _).mono (by have:=hc 1;omega)
 cases decide (t.kind=21);case true=>exact (h.failu _ _ _).mono (by have:=hc 1;omega)
 exact h.mono (by have:=hc 1;omega)
theorem cks_f(X:∀ i,CkS (x i) (cN t i)):CkS (ckF F t x) (count t) :=
 ⟨Yqe X,fun S=>(Ype X S).mono (by have:=Vsa t 1;omega),Ubf X,Uhf X,Xzc X,fun S=>(Zjf X S).mono (by have:=Vsa t 3;omega),fun S=>(Yre X S).mono (by have:=Vsa t t.kids.length;omega),fun f S=>(Ytd X f S).mono (by have:=Vsa t 2;omega)⟩
end
theorem Uh(F:Nd):∀ t,CkS (ckT F t) (count t):=by
 refine Nd.ind fun t ih=>?_;rw [Zha];refine cks_f fun i=>?_;by_cases h:i<t.kids.length;rw [Wl h,Xra h,Yz h];exact ih _ (Aba h);rw [ckX,cN];simp only [Afa,Ana];rw [Ala O];exact Jqf
theorem Xzb(F t:Nd)(i:Nat):CkS (ckX F t i) (cN t i):=by
 by_cases h:i<t.kids.length;rw [Wl h,Xra h];exact Uh F _;rw [ckX,cN];simp only [Afa,Ana];rw [Ala O];exact Jqf
def Sc(S:CSt):Prop:=∀ v∈S.vars,v.scope≤S.scope
structure Vs (S T:CSt):Prop where
  vars:T.vars=S.vars
  scope:T.scope=S.scope
structure Vp (S T:CSt):Prop where
  vars:∃ l,T.vars=S.vars++l∧∀ v∈l,v.scope=S.scope
  scope:T.scope=S.scope
theorem Vs.refl(S:CSt):Vs S S:=⟨rfl,rfl⟩
theorem Vs.trans{S T U:CSt}(h:Vs S T)(k:Vs T U):Vs S U:=⟨k.vars.trans h.vars,k.scope.trans h.scope⟩
theorem Vs.sc{S T:CSt}(h:Vs S T)(k:Sc S):Sc T:=fun v hv=>by rw [h.scope];exact k v (h.vars▸hv)
theorem Vs.vp{S T:CSt}(h:Vs S T):Vp S T:=⟨⟨[],by rw [h.vars,List.append_nil],fun v hv=>by cases hv⟩,h.scope⟩
theorem Vp.sc{S T:CSt}(h:Vp S T)(k:Sc S):Sc T:=fun v hv=>by
 obtain ⟨l,h1,h2⟩:=h.vars;rw [h.scope];rcases Ara.1 (h1▸hv) with q|q;exact k v q;exact Nat.le_of_eq (h2 v q)
theorem Vp.trans{S T U:CSt}(h:Vp S T)(k:Vp T U):Vp S U:=by
 obtain ⟨l,h1,h2⟩:=h.vars;obtain ⟨m,k1,k2⟩:=k.vars;refine ⟨⟨l++m,by rw [k1,h1,Bga],fun v hv=>?_⟩,k.scope.trans h.scope⟩;rcases Ara.1 hv with q|q;exact h2 v q;rw [k2 v q,h.scope]
theorem Yud(a e:Int)(S:CSt):Vs S (failS a e S):=⟨(Qu a e S).1,(Qu a e S).2.1⟩
theorem Vfd(b:Bool)(a e:Int)(S:CSt):Vs S (failU b a e S):=⟨(Qd b a e S).1,(Qd b a e S).2.1⟩
theorem Vs.fail{S T:CSt}(h:Vs S T)(a e:Int):Vs S (failS a e T):=h.trans (Yud a e T)
theorem Vs.failu{S T:CSt}(h:Vs S T)(b:Bool)(a e:Int):Vs S (failU b a e T):=h.trans (Vfd b a e T)
theorem Vs.cond{S T U:CSt}{b:Bool}(h:Vs S T)(k:Vs S U):Vs S (bif b then T else U):=by cases b <;> assumption
theorem Jgd(F n:Nd)(S:CSt):Vs S (pointerS F n S):=((Vs.refl S).failu _ _ _).cond (Vs.refl S)
theorem Yoa(F n:Nd)(S:CSt):Vs S (localS F n S):=(Jgd F n S).failu _ _ _
theorem Yra(s:List UInt8)(y:Ty)(a:Int)(S:CSt):Vp S (declS s y a S) :=
 ⟨⟨[⟨s,y,declN S,S.level,S.scope⟩],rfl,fun v hv=>by rw [Bfa.1 hv]⟩,(Qd (!dupV S s) a 6 S).2.1⟩
theorem Jfc{sc:Nat}{vs l:List Vr}(h1:∀ v∈l,v.scope=sc)(h2:∀ v∈vs,v.scope<sc):dropV sc (vs++l)=vs:=by
 unfold dropV;rw [Bra]
 have e:∀ (a b:List Vr),(∀ v∈a,v.scope=sc)→(∀ v∈b,v.scope<sc)→(a++b).dropWhile (fun v=>decide (v.scope=sc))=b:=by
  intro a b ha hb
  induction a with
  | nil =>
   cases b with
   | nil=>rfl
   | cons x b=>rw [List.nil_append,List.dropWhile_cons_of_neg];have:=hb x Ata;simp;omega
  | cons x a ih=>rw [List.cons_append,List.dropWhile_cons_of_pos (by simp [ha x Ata])];exact ih fun v hv=>ha v (Aoa _ hv)
 rw [e l.reverse vs.reverse (fun v hv=>h1 v (Asa.1 hv)) (fun v hv=>h2 v (Asa.1 hv)),List.reverse_reverse]
theorem Vgd{S T:CSt}(hs:Sc S)(h:Vp (openS S) T):Vs S (shutS T):=by
 obtain ⟨l,h1,h2⟩:=h.vars;have hsc:T.scope=S.scope+1:=h.scope;refine ⟨?_,by show T.scope-1=_;omega⟩;show dropV T.scope T.vars=S.vars;rw [h1,hsc];exact Jfc h2 fun v hv=>Nat.lt_succ_of_le (hs v hv)
theorem Yeb{S:CSt}(h:Sc S):Sc (openS S):=fun v hv=>Nat.le_succ_of_le (h v hv)
theorem Zwg{S T:CSt}(h:Vs (litS S) T):Vs S { T with level:=T.level-1,result:=S.result }:=⟨h.vars,h.scope⟩
structure CkV (c:Ck):Prop where
  ex:∀ S,Sc S→Vs S (c.ex S).2
  mem:∀ S,Sc S→Vs S (c.mem S).2
  cal:∀ S,Sc S→Vs S (c.cal S).2
  st:∀ S,Sc S→Vp S (c.st S).2
  blk:∀ S,Sc S→Vs S (c.blk S).2
  ifs:∀ S,Sc S→Vs S (c.ifs S).2
  sts:∀ S,Sc S→Vp S (c.sts S).2
  cas:∀ f S,Sc S→Vs S (c.cas f S).2
theorem Jrf:CkV ck0:=⟨fun S _=>Vs.refl S,fun S _=>Vs.refl S,fun S _=>Vs.refl S,fun S _=>(Vs.refl S).vp,fun S _=>Vs.refl S,fun S _=>Vs.refl S,fun S _=>(Vs.refl S).vp,fun _ S _=>Vs.refl S⟩
section
variable {F t:Nd} {x:Nat→Ck}
theorem Vs.ex(X:∀ i,CkV (x i)){S T:CSt}(h:Vs S T)(hs:Sc S)(i:Nat):Vs S ((x i).ex T).2:=h.trans ((X i).ex T (h.sc hs))
theorem Vs.blk(X:∀ i,CkV (x i)){S T:CSt}(h:Vs S T)(hs:Sc S)(i:Nat):Vs S ((x i).blk T).2:=h.trans ((X i).blk T (h.sc hs))
theorem Zkf(X:∀ i,CkV (x i)){S:CSt}(hs:Sc S):Vs S (memR F t x S).2:=by
 have h:=Vs.ex X (Vs.refl S) hs 0;unfold memR;dsimp only;cases decide (((x 0).ex S).1.ty.kind=4);exact h.fail _ _;simp only [Wug];split;exact h;exact h.fail _ _
theorem Jhd(X:∀ i,CkV (x i))(ps:List Ty){S T:CSt}(hs:Sc S)(h:Vs S T):∀ i,Vs S (argA t x ps T i).2
 | 0=>h
 | i+1=>(Vs.ex X (Jhd X ps hs h i) hs (i+1)).failu _ _ _
theorem Uif(X:∀ i,CkV (x i)){S:CSt}(hs:Sc S):Vs S (callR t x S).2:=Jhd X _ hs (((X 0).cal S hs).failu _ _ _) _
theorem Ujf(X:∀ i,CkV (x i)){S:CSt}(hs:Sc S):Vs S (litR t x S).2:=Zwg ((X 0).blk (litS S) hs)
theorem vs_op(X:∀ i,CkV (x i)){S:CSt}(hs:Sc S):Vs S (opR t x S).2:=by
 have h:=Vs.ex X (Vs.refl S) hs 0;unfold opR;dsimp only [wantS];repeat' (first|(generalize decide (t.kind=_)=q;cases q <;> simp only [Wug,Wtg]))
 all_goals first
  | exact (Vs.ex X (h.failu _ _ _) hs 1).failu _ _ _
  | exact (Vs.ex X h hs 1).failu _ _ _
  | exact h.failu _ _ _
  | exact h
theorem Jid(X:∀ i,CkV (x i)){S:CSt}(hs:Sc S):Vs S (exR F t x S).2:=by
 unfold exR;cases decide (t.kind=24);case true=>exact Vs.refl S
 cases decide (t.kind=25);case true=>exact Vs.refl S
 cases decide (t.kind=26);case true=>exact Vs.refl S
 cases decide (t.kind=38);case true=>exact Ujf X hs
 cases decide (t.kind=30);case true=>exact Uif X hs
 cases decide (t.kind=27);case true=>exact ((Vs.refl S).failu _ _ _).cond ((Vs.refl S).fail _ _)
 cases decide (t.kind=28);case true=>exact (Zkf X hs).failu _ _ _
 cases decide (t.kind=34);case true=>exact (Vs.refl S).failu _ _ _
 exact vs_op X hs
theorem Zxg(X:∀ i,CkV (x i)){S:CSt}(hs:Sc S):Vs S (calR F t x S).2:=by
 unfold calR;dsimp only;cases decide (t.kind=28)&&((x 0).rcv S).2;simp only [Wtg];cases decide (t.kind=27)&&((lookR F S t).2&&decide ((lookR F S t).1.ref=3));exact (Jid X hs).failu _ _ _;exact Vs.refl S;refine Vs.failu ?_ _ _ _;unfold rcvX;cases decide ((Zb t 0).kind=28);exact Vs.refl S;exact (X 0).mem S hs
theorem Yvd(X:∀ i,CkV (x i)){S:CSt}(hs:Sc S):∀ i,Vp S (stA x S i).2
 | 0=>(Vs.refl S).vp
 | i+1=>(Yvd X hs i).trans ((X i).st _ ((Yvd X hs i).sc hs))
theorem Zlf(X:∀ i,CkV (x i)){S:CSt}(hs:Sc S):Vp S (stsR t x S).2:=Yvd X hs _
theorem Ydc(X:∀ i,CkV (x i)){S:CSt}(hs:Sc S):Vs S (blkR t x S).2:=Vgd hs (Zlf X (Yeb hs))
theorem Yse(X:∀ i,CkV (x i))(k:Nd){S:CSt}(hs:Sc S):Vs S (condR k (x 0) S).2:=by
 unfold condR;cases decide (k.kind=9);exact ((X 0).ex S hs).failu _ _ _;exact Vs.refl S
theorem Yte(X:∀ i,CkV (x i)){S:CSt}(hs:Sc S):Vs S (ifR t x S).2:=by
 have h1:Vs S ((x 1).blk (condR (Zb t 0) (x 0) S).2).2:=Vs.blk X (Yse X _ hs) hs 1;unfold ifR;dsimp only;cases decide ((Zb t 2).kind=10);cases decide ((Zb t 2).kind=18);exact h1;exact h1.trans ((X 2).ifs _ (h1.sc hs));exact h1.trans ((X 2).blk _ (h1.sc hs))
theorem Jjd(X:∀ i,CkV (x i)){S:CSt}(hs:Sc S):Vs S (asgR t x S).2:=(Vs.ex X ((Vs.ex X (Vs.refl S) hs 0).failu _ _ _) hs 1).failu _ _ _
theorem Jkd(X:∀ i,CkV (x i))(f:Bool){S:CSt}(hs:Sc S):Vs S (casR t x f S).2:=by
 have h:Vp (openS S) (bif decide ((Zb t 0).kind=9) then (clnT (Zb t 0),failU f t.pos 6 (openS S)) else (x 0).st (openS S)).2:=by
  cases decide ((Zb t 0).kind=9);exact (X 0).st _ (Yeb hs);exact ((Vs.refl _).failu _ _ _).vp
 exact Vgd hs (h.trans ((X 1).sts _ (h.sc (Yeb hs))))
theorem Wxb(X:∀ i,CkV (x i)){S:CSt}(hs:Sc S):∀ i,Vs S (selA t x S i).2.2
 | 0=>Vs.refl S
 | i+1=>(Wxb X hs i).trans ((X i).cas _ _ ((Wxb X hs i).sc hs))
theorem Zyg(X:∀ i,CkV (x i)){S:CSt}(hs:Sc S):Vp S (varR F t x S).2:=by
 unfold varR;dsimp only;cases decide ((Zb t 1).kind=9);exact ((Vs.ex X (Yoa F _ S) hs 1).failu _ _ _).vp.trans (Yra _ _ _ _);exact (Yoa F _ S).vp.trans (Yra _ _ _ _)
theorem Zzg(X:∀ i,CkV (x i)){S:CSt}(hs:Sc S):Vp S (defR t x S).2:=(((X 0).ex S hs).failu _ _ _).vp.trans (Yra _ _ _ _)
theorem Jld(X:∀ i,CkV (x i)){S:CSt}(hs:Sc S):Vs S (forR t x S).2:=Vs.blk X (Yse X _ hs) hs 1
theorem Jmd(X:∀ i,CkV (x i)){S:CSt}(hs:Sc S):Vs S (retR t x S).2:=by
 unfold retR;dsimp only;cases decide ((t.kids.length:Int)=1);exact (Vs.refl S).failu _ _ _;exact (Vs.ex X ((Vs.refl S).failu _ _ _) hs 0).failu _ _ _
theorem Yag(X:∀ i,CkV (x i)){S:CSt}(hs:Sc S):Vp S (stR F t x S).2:=by
 unfold stR;dsimp only;cases decide (t.kind=10);case true=>exact (Ydc X hs).vp
 cases decide (t.kind=18);case true=>exact (Yte X hs).vp
 cases decide (t.kind=12);case true=>exact (Jjd X hs).vp
 cases decide (t.kind=22);case true=>exact (Wxb X hs _).vp
 cases decide (t.kind=6);case true=>exact Zyg X hs
 cases decide (t.kind=11);case true=>exact Zzg X hs
 cases decide (t.kind=19);case true=>exact (Jld X hs).vp
 cases decide (t.kind=20);case true=>exact (Jmd X hs).vp
 have h:=(X 0).ex S hs;simp only [Wtg,wantS];cases decide (t.kind=16);case true=>exact ((Vs.ex X (h.failu _ _ _) hs 1).failu _ _ _).vp
 cases decide (t.kind=17);case true=>exact (h.failu _ _ _).vp
 cases decide (t.kind=21);case true=>exact (h.failu _ _ _).vp
 exact h.vp
theorem ckv_f(X:∀ i,CkV (x i)):CkV (ckF F t x) :=
 ⟨fun S h=>Jid X h,fun S h=>Zkf X h,fun S h=>Zxg X h,fun S h=>Yag X h,fun S h=>Ydc X h,fun S h=>Yte X h,fun S h=>Zlf X h,fun f S h=>Jkd X f h⟩
end
theorem Qxa(F:Nd):∀ t,CkV (ckT F t):=by
 refine Nd.ind fun t ih=>?_;rw [Zha];refine ckv_f fun i=>?_;by_cases h:i<t.kids.length;rw [Wl h,Yz h];exact ih _ (Aba h);rw [ckX];simp only [Afa,Ana];rw [Ala O];exact Jrf
theorem Wab(F t:Nd)(i:Nat):CkV (ckX F t i):=by
 by_cases h:i<t.kids.length;rw [Wl h];exact Qxa F _;rw [ckX];simp only [Afa,Ana];rw [Ala O];exact Jrf
def Ln(S:CSt):Prop:=S.level<S.next.length
structure Nl (S T:CSt):Prop where
  lv:T.level=S.level
  nx:∀ i,i<S.level→T.next[i]? = S.next[i]?
  ln:S.level<T.next.length
structure Nq (S T:CSt):Prop where
  lv:T.level=S.level
  nx:∀ i,i≤S.level→T.next[i]? = S.next[i]?
  ln:S.level<T.next.length
theorem Nq.refl{S:CSt}(h:Ln S):Nq S S:=⟨rfl,fun _ _=>rfl,h⟩
theorem Nq.nl{S T:CSt}(h:Nq S T):Nl S T:=⟨h.lv,fun i hi=>h.nx i (Nat.le_of_lt hi),h.ln⟩
theorem Nq.l{S T:CSt}(h:Nq S T):Ln T:=by have:=h.ln;unfold Ln;rw [h.lv];exact this
theorem Nl.l{S T:CSt}(h:Nl S T):Ln T:=by have:=h.ln;unfold Ln;rw [h.lv];exact this
theorem Nq.trans{S T U:CSt}(h:Nq S T)(k:Nq T U):Nq S U:=⟨k.lv.trans h.lv,fun i hi=>(k.nx i (h.lv▸hi)).trans (h.nx i hi),h.lv▸k.ln⟩
theorem Nl.trans{S T U:CSt}(h:Nl S T)(k:Nl T U):Nl S U:=⟨k.lv.trans h.lv,fun i hi=>(k.nx i (h.lv▸hi)).trans (h.nx i hi),h.lv▸k.ln⟩
theorem Zmf{S T:CSt}(h:Ln S)(h3:T.level=S.level)(h4:T.next=S.next):Nq S T:=⟨h3,fun i _=>by rw [h4],by rw [h4];exact h⟩
theorem Nq.fail{S T:CSt}(h:Nq S T)(a e:Int):Nq S (failS a e T):=h.trans (Zmf h.l (Qu a e T).2.2.1 (Qu a e T).2.2.2.1)
theorem Nq.failu{S T:CSt}(h:Nq S T)(b:Bool)(a e:Int):Nq S (failU b a e T):=h.trans (Zmf h.l (Qd b a e T).2.2.1 (Qd b a e T).2.2.2.1)
theorem Nl.failu{S T:CSt}(h:Nl S T)(b:Bool)(a e:Int):Nl S (failU b a e T):=h.trans (Zmf h.l (Qd b a e T).2.2.1 (Qd b a e T).2.2.2.1).nl
theorem Nq.cond{S T U:CSt}{b:Bool}(h:Nq S T)(k:Nq S U):Nq S (bif b then T else U):=by cases b <;> assumption
theorem Vmc(F n:Nd){S:CSt}(h:Ln S):Nq S (localS F n S):=(((Nq.refl h).failu _ _ _).cond (Nq.refl h)).failu _ _ _
theorem Ywd(s:List UInt8)(y:Ty)(a:Int){S:CSt}(h:Ln S):Nl S (declS s y a S):=by
 refine ⟨(Qd (!dupV S s) a 6 S).2.2.1,fun i hi=>?_,?_⟩;show (S.next.set S.level (declN S+1))[i]? = _;rw [List.getElem?_set_ne O];show S.level<(S.next.set _ _).length;rw [List.length_set];exact h
theorem Vhd{S T:CSt}(h:Nl (openS S) T):Nl S (shutS T):=⟨h.lv,h.nx,h.ln⟩
theorem Ybg{S:CSt}(h:Ln S):Ln (litS S):=by
 unfold Ln at h;show S.level+1<(S.next.take (S.level+1)++[0]).length;rw [Bha,Aya];simp only [Bia,List.length_nil];omega
theorem Ycg{S T:CSt}(hs:Ln S)(h:Nl (litS S) T):Nq S { T with level:=T.level-1,result:=S.result }:=by
 have h1:T.level=S.level+1:=h.lv;have h3:S.level+1<T.next.length:=h.ln;refine ⟨by show T.level-1=_;omega,fun i hi=>?_,by show S.level<T.next.length;omega⟩;have h2:=h.nx i (show i<S.level+1 by omega);refine h2.trans ?_;show (S.next.take (S.level+1)++[0])[i]? = _;unfold Ln at hs;rw [List.getElem?_append_left (by rw [Aya];omega),List.getElem?_take_of_lt O]
structure CkN (c:Ck):Prop where
  ex:∀ S,Ln S→Nq S (c.ex S).2
  mem:∀ S,Ln S→Nq S (c.mem S).2
  cal:∀ S,Ln S→Nq S (c.cal S).2
  st:∀ S,Ln S→Nl S (c.st S).2
  blk:∀ S,Ln S→Nl S (c.blk S).2
  ifs:∀ S,Ln S→Nl S (c.ifs S).2
  sts:∀ S,Ln S→Nl S (c.sts S).2
  cas:∀ f S,Ln S→Nl S (c.cas f S).2
theorem ckn_0:CkN ck0:=⟨fun S h=>Nq.refl h,fun S h=>Nq.refl h,fun S h=>Nq.refl h,fun S h=>(Nq.refl h).nl,fun S h=>(Nq.refl h).nl,fun S h=>(Nq.refl h).nl,fun S h=>(Nq.refl h).nl,fun _ S h=>(Nq.refl h).nl⟩
section
variable {F t:Nd} {x:Nat→Ck}
theorem Nq.ex(X:∀ i,CkN (x i)){S T:CSt}(h:Nq S T)(i:Nat):Nq S ((x i).ex T).2:=h.trans ((X i).ex T h.l)
theorem Nl.ex(X:∀ i,CkN (x i)){S T:CSt}(h:Nl S T)(i:Nat):Nl S ((x i).ex T).2:=h.trans ((X i).ex T h.l).nl
theorem Nl.blk(X:∀ i,CkN (x i)){S T:CSt}(h:Nl S T)(i:Nat):Nl S ((x i).blk T).2:=h.trans ((X i).blk T h.l)
theorem Znf(X:∀ i,CkN (x i)){S:CSt}(hs:Ln S):Nq S (memR F t x S).2:=by
 have h:=Nq.ex X (Nq.refl hs) 0;unfold memR;dsimp only;cases decide (((x 0).ex S).1.ty.kind=4);exact h.fail _ _;simp only [Wug];split;exact h;exact h.fail _ _
theorem Zof(X:∀ i,CkN (x i))(ps:List Ty){S T:CSt}(h:Nq S T):∀ i,Nq S (argA t x ps T i).2
 | 0=>h
 | i+1=>(Nq.ex X (Zof X ps h i) (i+1)).failu _ _ _
theorem Ukf(X:∀ i,CkN (x i)){S:CSt}(hs:Ln S):Nq S (callR t x S).2:=Zof X _ (((X 0).cal S hs).failu _ _ _) _
theorem Ulf(X:∀ i,CkN (x i)){S:CSt}(hs:Ln S):Nq S (litR t x S).2:=Ycg hs ((X 0).blk (litS S) (Ybg hs))
theorem nq_op(X:∀ i,CkN (x i)){S:CSt}(hs:Ln S):Nq S (opR t x S).2:=by
 have h:=Nq.ex X (Nq.refl hs) 0;unfold opR;dsimp only [wantS];repeat' (first|(generalize decide (t.kind=_)=q;cases q <;> simp only [Wug,Wtg]))
 all_goals first
  | exact (Nq.ex X (h.failu _ _ _) 1).failu _ _ _
  | exact (Nq.ex X h 1).failu _ _ _
  | exact h.failu _ _ _
  | exact h
theorem Zpf(X:∀ i,CkN (x i)){S:CSt}(hs:Ln S):Nq S (exR F t x S).2:=by
 unfold exR;cases decide (t.kind=24);case true=>exact Nq.refl hs
 cases decide (t.kind=25);case true=>exact Nq.refl hs
 cases decide (t.kind=26);case true=>exact Nq.refl hs
 cases decide (t.kind=38);case true=>exact Ulf X hs
 cases decide (t.kind=30);case true=>exact Ukf X hs
 cases decide (t.kind=27);case true=>exact ((Nq.refl hs).failu _ _ _).cond ((Nq.refl hs).fail _ _)
 cases decide (t.kind=28);case true=>exact (Znf X hs).failu _ _ _
 cases decide (t.kind=34);case true=>exact (Nq.refl hs).failu _ _ _
 exact nq_op X hs
theorem Ydg(X:∀ i,CkN (x i)){S:CSt}(hs:Ln S):Nq S (calR F t x S).2:=by
 unfold calR;dsimp only;cases decide (t.kind=28)&&((x 0).rcv S).2;simp only [Wtg];cases decide (t.kind=27)&&((lookR F S t).2&&decide ((lookR F S t).1.ref=3));exact (Zpf X hs).failu _ _ _;exact Nq.refl hs;refine Nq.failu ?_ _ _ _;unfold rcvX;cases decide ((Zb t 0).kind=28);exact Nq.refl hs;exact (X 0).mem S hs
theorem Jnd(X:∀ i,CkN (x i)){S:CSt}(hs:Ln S):∀ i,Nl S (stA x S i).2
 | 0=>(Nq.refl hs).nl
 | i+1=>(Jnd X hs i).trans ((X i).st _ (Jnd X hs i).l)
theorem Zqf(X:∀ i,CkN (x i)){S:CSt}(hs:Ln S):Nl S (stsR t x S).2:=Jnd X hs _
theorem Zrf(X:∀ i,CkN (x i)){S:CSt}(hs:Ln S):Nl S (blkR t x S).2:=Vhd (Zqf X (S:=openS S) hs)
theorem Yue(X:∀ i,CkN (x i))(k:Nd){S:CSt}(hs:Ln S):Nq S (condR k (x 0) S).2:=by
 unfold condR;cases decide (k.kind=9);exact ((X 0).ex S hs).failu _ _ _;exact Nq.refl hs
theorem Jsf(X:∀ i,CkN (x i)){S:CSt}(hs:Ln S):Nl S (ifR t x S).2:=by
 have h1:Nl S ((x 1).blk (condR (Zb t 0) (x 0) S).2).2:=Nl.blk X (Yue X _ hs).nl 1;unfold ifR;dsimp only;cases decide ((Zb t 2).kind=10);cases decide ((Zb t 2).kind=18);exact h1;exact h1.trans ((X 2).ifs _ h1.l);exact h1.trans ((X 2).blk _ h1.l)
theorem Yeg(X:∀ i,CkN (x i)){S:CSt}(hs:Ln S):Nq S (asgR t x S).2:=(Nq.ex X ((Nq.ex X (Nq.refl hs) 0).failu _ _ _) 1).failu _ _ _
theorem Yfg(X:∀ i,CkN (x i))(f:Bool){S:CSt}(hs:Ln S):Nl S (casR t x f S).2:=by
 have h:Nl (openS S) (bif decide ((Zb t 0).kind=9) then (clnT (Zb t 0),failU f t.pos 6 (openS S)) else (x 0).st (openS S)).2:=by
  cases decide ((Zb t 0).kind=9);exact (X 0).st _ hs;exact ((Nq.refl (S:=openS S) hs).failu f t.pos 6).nl
 exact Vhd (h.trans ((X 1).sts _ h.l))
theorem Yxd(X:∀ i,CkN (x i)){S:CSt}(hs:Ln S):∀ i,Nl S (selA t x S i).2.2
 | 0=>(Nq.refl hs).nl
 | i+1=>(Yxd X hs i).trans ((X i).cas _ _ (Yxd X hs i).l)
theorem Ygg(X:∀ i,CkN (x i)){S:CSt}(hs:Ln S):Nl S (varR F t x S).2:=by
 unfold varR;dsimp only;cases decide ((Zb t 1).kind=9);have h:=(Nq.ex X (Vmc F (Zb t 0) hs) 1).failu (Us (ofF (Zb t 0)).1 ((x 1).ex (localS F (Zb t 0) S)).1.ty) (Zb t 1).pos 7;exact h.nl.trans (Ywd _ _ _ h.l);exact (Vmc F _ hs).nl.trans (Ywd _ _ _ (Vmc F _ hs).l)
theorem Yhg(X:∀ i,CkN (x i)){S:CSt}(hs:Ln S):Nl S (defR t x S).2:=by
 have h:=((X 0).ex S hs).failu (Ux ((x 0).ex S).1.ty) (Zb t 0).pos 7;exact h.nl.trans (Ywd _ _ _ h.l)
theorem Yig(X:∀ i,CkN (x i)){S:CSt}(hs:Ln S):Nl S (forR t x S).2:=Nl.blk X (Yue X _ hs).nl 1
theorem Yjg(X:∀ i,CkN (x i)){S:CSt}(hs:Ln S):Nq S (retR t x S).2:=by
 unfold retR;dsimp only;cases decide ((t.kids.length:Int)=1);exact (Nq.refl hs).failu _ _ _;exact (Nq.ex X ((Nq.refl hs).failu _ _ _) 0).failu _ _ _
theorem Ykg(X:∀ i,CkN (x i)){S:CSt}(hs:Ln S):Nl S (stR F t x S).2:=by
 unfold stR;dsimp only;cases decide (t.kind=10);case true=>exact Zrf X hs
 cases decide (t.kind=18);case true=>exact Jsf X hs
 cases decide (t.kind=12);case true=>exact (Yeg X hs).nl
 cases decide (t.kind=22);case true=>exact Yxd X hs _
 cases decide (t.kind=6);case true=>exact Ygg X hs
 cases decide (t.kind=11);case true=>exact Yhg X hs
 cases decide (t.kind=19);case true=>exact Yig X hs
 cases decide (t.kind=20);case true=>exact (Yjg X hs).nl
 have h:=(X 0).ex S hs;simp only [Wtg,wantS];cases decide (t.kind=16);case true=>exact ((Nq.ex X (h.failu _ _ _) 1).failu _ _ _).nl
 cases decide (t.kind=17);case true=>exact (h.failu _ _ _).nl
 cases decide (t.kind=21);case true=>exact (h.failu _ _ _).nl
 exact h.nl
theorem ckn_f(X:∀ i,CkN (x i)):CkN (ckF F t x) :=
 ⟨fun S h=>Zpf X h,fun S h=>Znf X h,fun S h=>Ydg X h,fun S h=>Ykg X h,fun S h=>Zrf X h,fun S h=>Jsf X h,fun S h=>Zqf X h,fun f S h=>Yfg X f h⟩
end
theorem ckn_t(F:Nd):∀ t,CkN (ckT F t):=by
 refine Nd.ind fun t ih=>?_;rw [Zha];refine ckn_f fun i=>?_;by_cases h:i<t.kids.length;rw [Wl h,Yz h];exact ih _ (Aba h);rw [ckX];simp only [Afa,Ana];rw [Ala O];exact ckn_0
def Can(y:Ty):Prop:=y.kind=4∨y.name=[]
def CanV(S:CSt):Prop:=∀ v∈S.vars,Can v.typ
theorem Qya:Can ty0:=.inr rfl
theorem Yec(t:Nd):Can (ofF t).1:=by
 unfold ofF;cases !leafB t;case true=>exact Qya
 cases decide (t.kind=9);case true=>exact Qya
 cases decide (t.kind=8)
 case true =>
  cases nameB t.text;exact Qya;exact .inl rfl
 cases decide (t.kind=7)
 case true =>
  cases typeNameB t.text;exact Qya;exact .inr rfl
 exact Qya
theorem Vnc{α β:Type}{f:α→Option β}:∀ (l:List α) (r:List β),mapO f l=some r→∀ y∈r,∃ x∈l,f x=some y
 | [],r,h,y,hy=>by injection h with h;subst h;cases hy
 | x::l,r,h,y,hy=>by
  rw [mapO] at h
  cases h1:f x with
  | none=>rw [h1] at h;cases h
  | some b =>
   cases h2:mapO f l with
   | none=>rw [h1,h2] at h;cases h
   | some r' =>
    rw [h1,h2] at h;injection h with h;subst h;rcases List.mem_cons.1 hy with q|q;subst q;exact ⟨x,Ata,h1⟩;obtain ⟨z,hz,e⟩:=Vnc l r' h2 y q;exact ⟨z,Aoa _ hz,e⟩
theorem Jod(F:Nd)(s:List UInt8):∀ f∈(Ut F s).1,Can f.ty:=by
 unfold Ut;split;intro f hf;cases hf;split;intro f hf;cases hf;rename_i l hl;intro f hf;obtain ⟨d,_,e⟩:=Vnc _ _ hl f hf;unfold Qj at e;cases hq:(!decide (d.kind=3) || !decide ((d.kids.length:Int)=1));rw [hq] at e;cases h2:(ofF (kid0 d)).2;rw [h2] at e;cases e;rw [h2] at e;injection e with e;subst e;exact Yec _;rw [hq] at e;cases e
theorem Umf(op:List UInt8)(a b:Ty):Can (binT op a b).1:=by
 unfold binT;repeat' (first|exact .inr rfl|(split)|(cases anyS _ op <;> simp only [Wug,Wtg])|(cases (tyEqB _ _&&tyEqB _ _) <;> simp only [Wug,Wtg])|(cases compB a b <;> simp only [Wug,Wtg]))
theorem Zsf{q:Bool}{a b:Ty}(ha:Can a)(hb:Can b):Can (bif q then a else b):=by cases q <;> assumption
theorem Unf{q:Bool}{a b:List Ty×Ty×Bool}(ha:Can a.2.1)(hb:Can b.2.1):Can (bif q then a else b).2.1:=by cases q <;> assumption
theorem Uof(y:Ty)(s:List UInt8):Can (mthF y s).2.1:=by
 unfold mthF;repeat' (first|exact .inr rfl|refine Unf ?_ ?_)
theorem Upf(d:Nd):Can (fncTy d):=Zsf (.inr rfl) (.inr rfl)
theorem Vid(F:Nd){S:CSt}(hs:CanV S)(n:Nd):Can (lookR F S n).1.ty:=by
 unfold lookR
 cases h:findV S.vars n.text with
 | some v =>
  have hm:v∈S.vars:=Asa.1 (Bja h);exact hs v hm
 | none =>
  dsimp only;cases decide (0≤(findD F 6 n.text).2);cases decide (0≤(findD F 4 n.text).2);exact Qya;exact Upf _;exact Yec _
structure CkQ' (c:Ck):Prop where
  ex:∀ S,Sc S→CanV S→Can (c.ex S).1.ty
  mem:∀ S,Sc S→CanV S→Can (c.mem S).1.1.ty
  rcv:∀ S,Sc S→CanV S→Can (c.rcv S).1.ty
  cal:∀ S,Sc S→CanV S→Can (c.cal S).1.2.2
  st:∀ S,Sc S→CanV S→CanV (c.st S).2
theorem ckc_0:CkQ' ck0:=⟨fun S _ _=>Qya,fun S _ _=>Qya,fun S _ _=>Qya,fun S _ _=>Qya,fun S _ h=>h⟩
theorem Vs.can{S T:CSt}(h:Vs S T)(k:CanV S):CanV T:=fun v hv=>k v (h.vars▸hv)
theorem Jnb(s:List UInt8){y:Ty}(a:Int){S:CSt}(h:CanV S)(hy:Can y):CanV (declS s y a S):=fun v hv=>by
 have hv:v∈S.vars++[⟨s,y,declN S,S.level,S.scope⟩]:=hv;rcases Ara.1 hv with q|q;exact h v q;rw [Bfa.1 q];exact hy
section
variable {F t:Nd} {x:Nat→Ck}
theorem Yyd(X:∀ i,CkQ' (x i)){S:CSt}(hs:Sc S)(hc:CanV S):Can (memR F t x S).1.1.ty:=by
 unfold memR;dsimp only;cases decide (((x 0).ex S).1.ty.kind=4);exact Qya;simp only [Wug];split;rename_i f hf;exact Jod F _ f (Bja hf);exact Qya
theorem Uqf(X:∀ i,CkQ' (x i)){S:CSt}(hs:Sc S)(hc:CanV S):Can (rcvR F t x S).1.ty:=by
 unfold rcvR;cases decide (t.kind=27);cases decide (t.kind=28);exact Qya;exact Yyd X hs hc;exact Vid F hc t
theorem Ylg:Can (unTy t):=Zsf (.inr rfl) (.inr rfl)
theorem Ymg(X:∀ i,CkQ' (x i)){S:CSt}(hs:Sc S)(hc:CanV S):Can (opR t x S).1.ty:=by
 unfold opR;dsimp only;repeat' (first|exact .inr rfl|exact Ylg|exact Umf _ _ _|(generalize decide (t.kind=_)=q;cases q <;> simp only [Wug,Wtg]))
theorem Urf(X:∀ i,CkQ' (x i)){S:CSt}(hs:Sc S)(hc:CanV S):Can (exR F t x S).1.ty:=by
 unfold exR;cases decide (t.kind=24);case true=>exact .inr rfl
 cases decide (t.kind=25);case true=>exact .inr rfl
 cases decide (t.kind=26);case true=>exact .inr rfl
 cases decide (t.kind=38);case true=>exact .inr rfl
 cases decide (t.kind=30);case true=>exact (X 0).cal S hs hc
 cases decide (t.kind=27);case true=>exact Vid F hc t
 cases decide (t.kind=28);case true=>exact Yyd X hs hc
 cases decide (t.kind=34);case true=>exact .inl rfl
 exact Ymg X hs hc
theorem Usf(X:∀ i,CkQ' (x i)){S:CSt}(hs:Sc S)(hc:CanV S):Can (calR F t x S).1.2.2:=by
 unfold calR;dsimp only;cases decide (t.kind=28)&&((x 0).rcv S).2;simp only [Wtg];cases decide (t.kind=27)&&((lookR F S t).2&&decide ((lookR F S t).1.ref=3));exact Qya;exact Yec _;exact Uof _ _
theorem Utf(V:∀ i,CkV (x i))(X:∀ i,CkQ' (x i))(HS:∀ S,Sc S→Vs S (exR F t x S).2){S:CSt}(hs:Sc S)(hc:CanV S):CanV (stR F t x S).2:=by
 unfold stR;dsimp only;cases decide (t.kind=10);case true=>exact (Ydc V hs).can hc
 cases decide (t.kind=18);case true=>exact (Yte V hs).can hc
 cases decide (t.kind=12);case true=>exact (Jjd V hs).can hc
 cases decide (t.kind=22);case true=>exact (Wxb V hs _).can hc
 cases decide (t.kind=6)
 case true =>
  show CanV (varR F t x S).2;unfold varR;dsimp only;cases decide ((Zb t 1).kind=9);exact Jnb _ _ (((Vs.ex V (Yoa F _ S) hs 1).failu _ _ _).can hc) (Yec _);exact Jnb _ _ ((Yoa F _ S).can hc) (Yec _)
 cases decide (t.kind=11);case true=>exact Jnb _ _ ((((V 0).ex S hs).failu _ _ _).can hc) ((X 0).ex S hs hc)
 cases decide (t.kind=19);case true=>exact (Jld V hs).can hc
 cases decide (t.kind=20);case true=>exact (Jmd V hs).can hc
 have h:=(V 0).ex S hs;simp only [Wtg,wantS];cases decide (t.kind=16);case true=>exact ((Vs.ex V (h.failu _ _ _) hs 1).failu _ _ _).can hc
 cases decide (t.kind=17);case true=>exact (h.failu _ _ _).can hc
 cases decide (t.kind=21);case true=>exact (h.failu _ _ _).can hc
 exact h.can hc
theorem ckc_f(V:∀ i,CkV (x i))(X:∀ i,CkQ' (x i)):CkQ' (ckF F t x) :=
 ⟨fun S h k=>Urf X h k,fun S h k=>Yyd X h k,fun S h k=>Uqf X h k,fun S h k=>Usf X h k,fun S h k=>Utf V X (fun S h=>Jid V h) h k⟩
end
theorem Voc(F:Nd):∀ t,CkQ' (ckT F t):=by
 refine Nd.ind fun t ih=>?_;rw [Zha];refine ckc_f (fun i=>Wab F t i) fun i=>?_;by_cases h:i<t.kids.length;rw [Wl h,Yz h];exact ih _ (Aba h);rw [ckX];simp only [Afa,Ana];rw [Ala O];exact ckc_0
theorem Qdb{y:Ty}(h:Can y){k:Int}(hk:k≠4):tyEqB y ⟨k,[]⟩=decide (y.kind=k):=by
 unfold tyEqB;cases hq:decide (y.kind=k);rfl;have:=Wrg hq;rcases h with h|h;omega;rw [h];rfl
def Er(S T:CSt):Prop:=S.ee≠0→T.ee=S.ee∧T.ea=S.ea
theorem Er.refl(S:CSt):Er S S:=fun _=>⟨rfl,rfl⟩
theorem Er.trans{S T U:CSt}(h:Er S T)(k:Er T U):Er S U:=fun hn=>by
 obtain ⟨a,b⟩:=h hn;obtain ⟨c,d⟩:=k (by rw [a];exact hn);exact ⟨c.trans a,d.trans b⟩
theorem Stp.e{d:Nat}{S T:CSt}(h:Stp d S T):Er S T:=h.ers
theorem Er.fail{S T:CSt}(h:Er S T)(a e:Int):Er S (failS a e T):=h.trans (Jcc a e T).e
theorem Er.failu{S T:CSt}(h:Er S T)(b:Bool)(a e:Int):Er S (failU b a e T):=h.trans (Jdc b a e T).e
theorem Er.if1{S T U:CSt}{q:Bool}(h:Er S T)(k:Er S U):Er S (bif q then T else U):=by cases q <;> assumption
theorem Er.if2{α:Type}{S:CSt}{q:Bool}{a b:α×CSt}(h:Er S a.2)(k:Er S b.2):Er S (bif q then a else b).2:=by cases q <;> assumption
section
variable {F t:Nd} {x:Nat→Ck}
theorem Er.ex(X:∀ i,CkS (x i) (cN t i)){S T:CSt}(h:Er S T)(i:Nat):Er S ((x i).ex T).2:=h.trans ((X i).ex T).e
theorem Er.blk(X:∀ i,CkS (x i) (cN t i)){S T:CSt}(h:Er S T)(i:Nat):Er S ((x i).blk T).2:=h.trans ((X i).blk T).e
theorem Er.sts(X:∀ i,CkS (x i) (cN t i)){S T:CSt}(h:Er S T)(i:Nat):Er S ((x i).sts T).2:=h.trans ((X i).sts T).e
theorem Er.st(X:∀ i,CkS (x i) (cN t i)){S T:CSt}(h:Er S T)(i:Nat):Er S ((x i).st T).2:=h.trans ((X i).st T).e
theorem Er.shut{S T:CSt}(h:Er S T):Er S (shutS T):=h
theorem Er.decl{S T:CSt}(h:Er S T)(s:List UInt8)(y:Ty)(a:Int):Er S (declS s y a T):=h.trans (Xyb s y a T).e
theorem Jpd(X:∀ i,CkS (x i) (cN t i))(ps:List Ty)(S:CSt)(i:Nat):∀ k,Er (argA t x ps S i).2 (argA t x ps S (i+k)).2
 | 0=>Er.refl _
 | k+1=>((Jpd X ps S i k).ex X (i+k+1)).failu _ _ _
theorem Yve(X:∀ i,CkS (x i) (cN t i))(S:CSt)(i:Nat):∀ k,Er (selA t x S i).2.2 (selA t x S (i+k)).2.2
 | 0=>Er.refl _
 | k+1=>(Yve X S i k).trans ((X (i+k)).cas _ _).e
end
/-! what a round may write; what lies between two rounds -/
structure GB (B:Nat→Prop) (w w':Aa):Prop where
  os:w'.os=w.os
  tape:w'.tape=w.tape
  output:w'.output=w.output
  size:w.heap.size≤w'.heap.size
  block:∀ k,k<w.heap.size→¬ B k→w'.heap[k]? = w.heap[k]?
theorem GB.refl(B:Nat→Prop)(w:Aa):GB B w w:=⟨rfl,rfl,rfl,Aqa _,fun _ _ _=>rfl⟩
theorem GB.trans{B:Nat→Prop}{a b c:Aa}(h:GB B a b)(k:GB B b c):GB B a c :=
 ⟨k.os.trans h.os,k.tape.trans h.tape,k.output.trans h.output,Aga h.size k.size,fun i hi hn=>(k.block i (Aua hi h.size) hn).trans (h.block i hi hn)⟩
theorem GB.mono{B B':Nat→Prop}{w w':Aa}(h:GB B w w')(hB:∀ k,k<w.heap.size→B k→B' k):GB B' w w':=⟨h.os,h.tape,h.output,h.size,fun k hk hn=>h.block k hk fun hb=>hn (hB k hk hb)⟩
theorem GB.of_g{B:Nat→Prop}{w w':Aa}(h:G w w'):GB B w w':=⟨h.os,h.tape,h.output,h.size,fun k hk _=>h.block hk⟩
theorem GB.g{B:Nat→Prop}{w w':Aa}(h:GB B w w')(hB:∀ k,B k→w.heap.size≤k):G w w':=⟨h.os,h.tape,h.output,h.size,fun k hk=>h.block k hk fun hb=>by have:=hB k hb;omega⟩
theorem Ywe{B:Nat→Prop}{w0 w w':Aa}{b:Nat}(h:GB B w0 w)(hg:w.grownBy w' (some b))(hb:B b∨w0.heap.size≤b):GB B w0 w' :=
 ⟨hg.os.trans h.os,hg.tape.trans h.tape,hg.output.trans h.output,Aga h.size hg.size,fun k hk hn=>(hg.block k (Aua hk h.size) (fun e=>by
 injection e with e;subst e;rcases hb with hb|hb;exact hn hb;omega)).trans (h.block k hk hn)⟩
structure GI (n:Nat) (w w':Aa):Prop where
  below:Below n w w'
  cells:∀ (k:Nat) (o:Obj),w.heap[k]? = some o→o.isCells=true→w'.heap[k]? = some o
theorem GI.refl(n:Nat)(w:Aa):GI n w w:=⟨Below.refl _ _,fun _ _ h _=>h⟩
theorem GI.trans{n:Nat}{a b c:Aa}(h:GI n a b)(k:GI n b c):GI n a c:=⟨h.below.trans k.below,fun i o hi hc=>k.cells i o (h.cells i o hi hc) hc⟩
theorem GI.of_g{n:Nat}{a b:Aa}(h:G a b)(hn:n≤a.heap.size):GI n a b:=⟨Below.mono h hn,fun k o hk _=>(h.block (Ava.1 hk).1).trans hk⟩
theorem GI.mono{n m:Nat}{a b:Aa}(h:GI n a b)(hm:m≤n):GI m a b:=⟨h.below.mono hm,h.cells⟩
theorem GI.size{n:Nat}{a b:Aa}(h:GI n a b):a.heap.size≤b.heap.size:=h.below.size
theorem Blk.gb{w w':Aa}{B:Nat→Prop}{b:Nat}{e:Ba}{l:List Ga}(h:Blk w b e l)(g:GB B w w')(hb:¬ B b):Blk w' b e l:=(g.block b h.lt hb).trans h
theorem RowAt.gb{w w':Aa}{B:Nat→Prop}{b o:Nat}{l:List Ga}(h:RowAt w b o l)(g:GB B w w')(hb:¬ B b):RowAt w' b o l:=fun j v hj=>by
 have h1:=h j v hj;have hlt:=Ha w _ h1;exact (Ia (g.block b hlt hb)).trans h1
section
variable {P:Fa} {n:Nat} {ds:List Deferred} {N T:DPost} {X:List (Nat×DPost)} {Z:List Da→DPost} {σ:List Ent} {w:Aa}
@[reducible] def NoD:DPost:=fun _ _ _=>False
@[reducible] def NoZ:List Da→DPost:=fun _ _ _ _=>False
end
section
variable {P:Fa} {Z:List Da→Act→Aa→Prop} {ops:List Oper} {cl:List Nat} {lv:List Bool} {W0:Aa} {n:Nat} {K:Act→Aa→Prop} {k:Nat} {rest:List Oper} {σ:List Ent} {w:Aa} {d:Nat} {ty:Ba} {pos:String} {after:Array Edge}
end
/-! maps -/
def MapB(w:Aa)(b:Nat)(ks:List Ga):Prop:=∃ es clock,w.heap[b]? = some (.map es clock)∧es.toList.map (·.key)=ks∧∀ x∈es.toList,x.val = .bool true
section
variable {P:Fa} {w w':Aa} {b:Nat} {ks:List Ga}
theorem MapB.lt(h:MapB w b ks):b<w.heap.size:=by
 obtain ⟨es,c,hb,_⟩:=h;exact (Ava.1 hb).1
theorem MapB.grow(h:MapB w b ks)(g:G w w'):MapB w' b ks:=by
 have hl:=h.lt;obtain ⟨es,c,hb,hk⟩:=h;exact ⟨es,c,(g.block hl).trans hb,hk⟩
theorem MapB.keep(h:MapB w b ks){row:Option Nat}(hg:w.grownBy w' row)(hne:some b≠row):MapB w' b ks:=by
 have hl:=h.lt;obtain ⟨es,c,hb,hk⟩:=h;exact ⟨es,c,(hg.block b hl hne).trans hb,hk⟩
theorem MapB.gb{B:Nat→Prop}(h:MapB w b ks)(g:GB B w w')(hB:¬ B b):MapB w' b ks:=by
 have hl:=h.lt;obtain ⟨es,c,hb,hk⟩:=h;exact ⟨es,c,(g.block b hl hB).trans hb,hk⟩
theorem Yxe(w:Aa)(o:Obj):G w (w.alloc o):=⟨rfl,rfl,rfl,by simp,fun k hk=>heap_alloc_old w o hk⟩
structure KeyT (P:Fa) (k:Ba) {α:Type} [BEq α] [LawfulBEq α] (f:α→Ga):Prop where
  check:∀ (w:Aa) (em:Bool) (a:α),(Instr.checkKey em 10000 k (f a)).run P w = .ok () w
  find:∀ (w:Aa) (a:α) (l:List α) (es:List MapEntry),es.map (·.key)=l.map f→∃ r,(Instr.findKey k (f a) es).run P w = .ok r w∧
    ((r=none∧a∉l)∨∃ j e,r=some (j,e.val)∧es[j]? = some e∧e.key=f a∧a∈l)
  stays:∀ (w:Aa) (a:α),(Instr.keyThatStays (f a) (f a)).run P w = .ok (f a) w
end
def MapS(w:Aa)(b:Nat)(es:List (List UInt8×Ga)):Prop:=∃ ms clock,w.heap[b]? = some (.map ms clock)∧ms.toList.map (fun x=>(x.key,x.val))=es.map fun p=>(Str p.1,p.2)
def lookS:List (List UInt8×Ga)→List UInt8→Option Ga
 | [],_=>none
 | (k,v)::es,a=>bif decide (k=a) then some v else lookS es a
section
variable {P:Fa} {w w':Aa} {b:Nat} {es:List (List UInt8×Ga)}
theorem MapS.lt(h:MapS w b es):b<w.heap.size:=by
 obtain ⟨ms,c,hb,_⟩:=h;exact (Ava.1 hb).1
theorem MapS.same(h:MapS w b es)(e:w'.heap[b]? = w.heap[b]?):MapS w' b es:=by
 obtain ⟨ms,c,hb,hk⟩:=h;exact ⟨ms,c,e.trans hb,hk⟩
theorem MapS.grow(h:MapS w b es)(g:G w w'):MapS w' b es:=h.same (g.block h.lt)
theorem MapS.keep(h:MapS w b es){row:Option Nat}(hg:w.grownBy w' row)(hne:some b≠row):MapS w' b es:=h.same (hg.block b h.lt hne)
theorem MapS.nblk(h:MapS w b es){j:Nat}{e:Ba}{l:List Ga}(hB:Blk w j e l):b≠j:=fun q=>by
 subst q;obtain ⟨ms,c,hb,_⟩:=h;unfold Blk at hB;rw [hb] at hB;injection hB with hB;cases hB
theorem Ztf(w:Aa):MapS (w.alloc (.map #[] 0)) w.heap.size []:=⟨#[],0,(MapKept.heap_alloc w _).1,rfl⟩
theorem Wbb(a:List UInt8):∀ (ms:List MapEntry) (es:List (List UInt8×Ga)) (i:Nat),ms.map (fun x=>(x.key,x.val))=es.map (fun p=>(Str p.1,p.2))→
  (lookS es a=none∧Instr.findNow .string (Str a) ms i=some none)∨∃ v j,lookS es a=some v∧Instr.findNow .string (Str a) ms i=some (some (j,v))
 | [],es,i,h=>by
  cases es with
  | nil=>exact .inl ⟨rfl,rfl⟩
  | cons p es=>cases h
 | m::ms,es,i,h=>by
  cases es with
  | nil=>cases h
  | cons p es =>
   obtain ⟨k,v⟩:=p;rw [List.map_cons,List.map_cons] at h;injection h with h1 h2;injection h1 with h1 h3;have hs:Instr.sameNow .string (Str a) m.key=some ((⟨a.toArray⟩:ByteArray) == ⟨k.toArray⟩):=by rw [h1];rfl
   have hv:m.val=v:=h3;by_cases hk:k=a;subst hk;refine .inr ⟨v,i,by unfold lookS;rw [Wng rfl];rfl,?_⟩;rw [(MapKept.bytes_beq _ _).2 rfl] at hs;rw [Instr.findNow,hs,hv]
   have hf:((⟨a.toArray⟩:ByteArray) == ⟨k.toArray⟩)=false:=by
    cases q:((⟨a.toArray⟩:ByteArray) == ⟨k.toArray⟩) with
    | false=>rfl
    | true =>
     have q:=(MapKept.bytes_beq _ _).1 q;injection q with q;exact absurd (by have:=congrArg Array.toList q;simpa using this.symm) hk
   rw [hf] at hs;have e:lookS ((k,v)::es) a=lookS es a:=by show (bif decide (k=a) then some v else lookS es a)=_;rw [Wmg hk];rfl
   rw [e,Instr.findNow,hs];exact Wbb a ms es (i+1) h2
theorem Jgc{k:Ba}(hk:P.underlying k=some .string)(em:Bool)(a:List UInt8)(w:Aa):(Instr.checkKey em 10000 k (Str a)).run P w = .ok () w:=by
 show (Instr.checkKey em (9999+1) k (Str a)).run P w=_;rw [Instr.checkKey];simp only [Sem.run_bind,run_underlying hk,Result.andThen_ok,Sem.run_pure]
theorem Xec{k t e:Ba}(hk:P.underlying k=some .string)(ht:P.underlying t=some (.map k e)){z:Ga}(hz:zeroOf P e=some z)(h:MapS w b es)(a:List UInt8)(ok:Bool) :
 (Instr.lookup t (.map (some b)) (Str a) ok).run P w = .ok (bif ok then .tuple #[(lookS es a).getD z,.bool (lookS es a).isSome] else (lookS es a).getD z) w:=by
 obtain ⟨i,hi,hz'⟩:=Ula hz;obtain ⟨ms,c,hb,hm⟩:=h;have hck:=Jgc (P:=P) hk ms.isEmpty a w;rcases Wbb a ms.toList es 0 hm with ⟨h1,h2⟩|⟨v,j,h1,h2⟩;cases ok <;> simp [Instr.lookup,run_underlying ht,MapKept.run_getObj_map hb,hck,Instr.findKey,run_underlying hk,h2,zeroValue,typeInfo,hi,hz',h1]
 cases ok <;> simp [Instr.lookup,run_underlying ht,MapKept.run_getObj_map hb,hck,Instr.findKey,run_underlying hk,h2,h1]
theorem Vjd{k t e:Ba}(hk:P.underlying k=some .string)(ht:P.underlying t=some (.map k e))(h:MapS w b es){a:List UInt8}(hn:lookS es a=none)(v:Ga) :
 ∃ w',(Instr.mapUpdate t (.map (some b)) (Str a) v).run P w = .ok () w'∧MapS w' b (es++[(a,v)])∧w.grownBy w' (some b)∧w'.heap.size=w.heap.size:=by
 obtain ⟨ms,c,hb,hm⟩:=h;have hck:=Jgc (P:=P) hk false a w;have hlt:=(Ava.1 hb).1;rcases Wbb a ms.toList es 0 hm with ⟨h1,h2⟩|⟨u,j,h1,h2⟩;refine ⟨{ w with heap:=w.heap.setIfInBounds b (.map (ms.push ⟨Str a,v,c⟩) (c+1)) },?_,?_,?_,by simp⟩;simp [Instr.mapUpdate,run_underlying ht,MapKept.run_getObj_map hb,hck,Instr.findKey,run_underlying hk,h2,MapKept.run_setObj_map _ hb];refine ⟨_,_,(by rw [Bsa,if_pos rfl,if_pos hlt]),?_⟩;rw [Array.toList_push,List.map_append,hm,List.map_append];rfl
 exact ⟨rfl,rfl,rfl,by simp,fun i _ hi=>by
  have hi:b≠i:=fun e=>hi (by rw [e]);show (w.heap.setIfInBounds b _)[i]? = _;rw [Bsa,if_neg hi]⟩
 rw [hn] at h1;cases h1
end
section
variable {P:Fa} {Z:List Da→Act→Aa→Prop} {ops:List Oper} {cl:List Nat} {lv:List Bool} {W0:Aa} {n:Nat} {K:Act→Aa→Prop} {k:Nat} {rest:List Oper} {σ:List Ent} {w:Aa} {d:Nat} {ty:Ba} {pos:String} {after:Array Edge} {es:List (List UInt8×Ga)}
theorem Vpc{c:Prop}{wb:Aa}{t kt e b:Nat}{x y:Ea}{a:List UInt8}{z:Ga}(hk:P.underlying kt=some .string)(ht:P.underlying t=some (.map kt e))(hz:zeroOf P e=some z)(h:MapS wb b es)(hx:Ev n σ c x (.map (some b)))(hy:Ev n σ c y (Str a)) :
 Rd P n σ c wb (.lookup t x y false) ty ((lookS es a).getD z):=.mk fun d pos after gd act ha hc w1 hg=>by
 have r:=Xec hk ht hz (h.grow hg) a false;simp [execOp,hx act ha hc,hy act ha hc,r]
theorem Jhc{c:Prop}{wb:Aa}{t kt e b:Nat}{x y:Ea}{a:List UInt8}{z:Ga}(hk:P.underlying kt=some .string)(ht:P.underlying t=some (.map kt e))(hz:zeroOf P e=some z)(h:MapS wb b es)(hx:Ev n σ c x (.map (some b)))(hy:Ev n σ c y (Str a)) :
 Rd P n σ c wb (.lookup t x y true) ty (.tuple #[(lookS es a).getD z,.bool (lookS es a).isSome]):=.mk fun d pos after gd act ha hc w1 hg=>by
 have r:=Xec hk ht hz (h.grow hg) a true;simp [execOp,hx act ha hc,hy act ha hc,r]
theorem Waa{t kt e b:Nat}{x y z:Ea}{a:List UInt8}{v:Ga}(hb:Aha (clOf cl k) 2=true)(hk:P.underlying kt=some .string)(ht:P.underlying t=some (.map kt e))(hM:MapS w b es)(hn:lookS es a=none)(hx:Ev n σ True x (.map (some b)))(hy:Ev n σ True y (Str a))(hz:Ev n σ True z v)
 (h:∀ w1,MapS w1 b (es++[(a,v)])→w.grownBy w1 (some b)→w1.heap.size=w.heap.size→SR P Z ops cl lv W0 n K (k+1) rest σ w1) :
 SR P Z ops cl lv W0 n K k (⟨none,.mapUpdate t x y z,ty,pos,after,none⟩::rest) σ w:=by
 obtain ⟨w1,r1,r2,r3,r4⟩:=Vjd hk ht hM hn v;refine Yce hb (w':=w1) (fun d pos after g act ha _=>?_) (h w1 r2 r3 r4);simp [execOp,hx act ha trivial,hy act ha trivial,hz act ha trivial,r1]
theorem Una{t:Nat}(hb:(!Aha (clOf cl k) 0 && !Aha (clOf cl k) 3&&Nat.blt d n)=true)
  (h:∀ b w1,b=w.heap.size→G w w1→w1.heap.size=w.heap.size+1→MapS w1 b []→SR P Z ops cl lv W0 n K (k+1) rest ((d,True,.map (some b)) :: σ) w1) :
  SR P Z ops cl lv W0 n K k (⟨some d,.makeMap t none,ty,pos,after,none⟩::rest) σ w :=
 Umb hb (w':=w.alloc (.map #[] 0)) (fun d pos after g a ha _=>by simp [execOp,Instr.makeMap]) (fun _=>Yxe w _) (h _ _ rfl (Yxe w _) Os (Ztf w))
end
def numK(kd:Int)(f:Nat→Nd→Ga):List Nd→Nat→List (List UInt8×Ga)
 | [],_=>[]
 | d::l,k=>bif decide (d.kind=kd) then (d.text,f k d)::numK kd f l (k+1) else numK kd f l k
def cntK(kd:Int)(l:List Nd):Nat:=(l.filter fun d=>decide (d.kind=kd)).length
theorem Wba(kd:Int)(d:Nd)(l:List Nd):cntK kd (d::l)=(bif decide (d.kind=kd) then 1 else 0)+cntK kd l:=by
 unfold cntK;cases h:decide (d.kind=kd);rw [Bta (by simp [h])];simp;rw [Bua (by simpa using h),Bia];show _=1+_;omega
theorem Zuf(kd:Int)(l:List Nd)(d:Nd):cntK kd (l++[d])=cntK kd l+(bif decide (d.kind=kd) then 1 else 0):=by
 unfold cntK;rw [List.filter_append,Bha];cases h:decide (d.kind=kd);rw [Bta (by simp [h])];rfl;rw [Bua (by simpa using h)];rfl
theorem Wcb(kd:Int)(f:Nat→Nd→Ga):∀ (l:List Nd) (k:Nat),(numK kd f l k).length=cntK kd l
 | [],k=>rfl
 | d::l,k=>by
  rw [Wba];unfold numK;cases decide (d.kind=kd);rw [Wtg,Wcb kd f l k];show _=0+_;omega;rw [Wug,Bia,Wcb kd f l (k+1)];show _=1+_;omega
theorem Vqc(kd:Int)(f:Nat→Nd→Ga)(d:Nd):∀ (l:List Nd) (k:Nat),numK kd f (l++[d]) k=numK kd f l k++(bif decide (d.kind=kd) then [(d.text,f (k+cntK kd l) d)] else [])
 | [],k=>by
  show (bif decide (d.kind=kd) then (d.text,f k d)::[] else [])=_;cases decide (d.kind=kd) <;> rfl
 | e::l,k=>by
  rw [Wba];show (bif decide (e.kind=kd) then (e.text,f k e)::numK kd f (l++[d]) (k+1) else numK kd f (l++[d]) k)=(bif decide (e.kind=kd) then (e.text,f k e)::numK kd f l (k+1) else numK kd f l k)++_;rw [Vqc kd f d l k,Vqc kd f d l (k+1)];cases decide (e.kind=kd);simp only [Wtg,Nat.zero_add];simp only [Wug,List.cons_append];rw [show k+(1+cntK kd l)=k+1+cntK kd l by omega]
theorem Vrc(kd:Int)(s:List UInt8):∀ (l:List Nd) (k:Nat),(findK kd s l k).2 = -1∨(k:Int)≤(findK kd s l k).2
 | [],k=>.inl rfl
 | d::l,k=>by
  unfold findK;cases decide (d.kind=kd);exact Vrc kd s l k;cases decide (d.text=s);rcases Vrc kd s l (k+1) with h|h;exact .inl h;exact .inr (by show (k:Int)≤(findK kd s l (k+1)).2;omega);exact .inr (Int.le_refl _)
theorem Zgb(kd:Int)(f:Nat→Nd→Ga)(s:List UInt8):∀ (l:List Nd) (k:Nat),lookS (numK kd f l k) s=bif decide (0≤(findK kd s l k).2) then some (f (findK kd s l k).2.toNat (findK kd s l k).1) else none
 | [],k=>rfl
 | d::l,k=>by
  unfold numK findK;cases decide (d.kind=kd);exact Zgb kd f s l k;show (bif decide (d.text=s) then some (f k d) else lookS (numK kd f l (k+1)) s)=_;cases decide (d.text=s);exact Zgb kd f s l (k+1);show _=bif decide (0≤(k:Int)) then some (f (k:Int).toNat d) else none;rw [Wng (Int.natCast_nonneg k)];rfl
theorem Yfc{kd:Int}{f:Nat→Nd→Ga}{s:List UInt8}:∀ {l:List Nd} {k:Nat},(∀ d∈l,d.text≠s)→lookS (numK kd f l k) s=none
 | [],k,_=>rfl
 | d::l,k,h=>by
  unfold numK;cases decide (d.kind=kd);exact Yfc fun e he=>h e (Aoa _ he);show (bif decide (d.text=s) then some (f k d) else lookS (numK kd f l (k+1)) s)=_;rw [Wmg (h d Ata)];exact Yfc fun e he=>h e (Aoa _ he)
def allK(l:List Nd):List (List UInt8×Ga):=l.map fun d=>(d.text,.bool true)
theorem Vkd(l:List Nd)(s:List UInt8):lookS (allK l) s=bif l.any (fun d=>decide (d.text=s)) then some (.bool true) else none:=by
 induction l with
 | nil=>rfl
 | cons d l ih =>
  show (bif decide (d.text=s) then some (.bool true) else lookS (allK l) s)=_;rw [ih,List.any_cons];cases decide (d.text=s) <;> rfl
theorem Ufe(l:List Nd)(s:List UInt8):(lookS (allK l) s).getD (.bool false) = .bool (l.any fun d=>decide (d.text=s)):=by
 rw [Vkd];cases l.any fun d=>decide (d.text=s) <;> rfl
/-! the search of a variable -/
theorem Uoa(a b:List Vr)(s:List UInt8):findV (a++b) s=(findV b s).or (findV a s):=by
 unfold findV;rw [Bra,List.find?_append]
theorem Vsc(a:List Vr)(v:Vr)(s:List UInt8):findV (a++[v]) s=bif decide (v.name=s) then some v else findV a s:=by
 rw [Uoa];unfold findV;show ((bif decide (v.name=s) then some v else none:Option Vr)).or _=_;cases decide (v.name=s) <;> rfl
theorem Uge{sc:List (List Vr)}{s:List UInt8}{i k:Nat}(hi:i<sc.length)(hk:k<sc[i].length)(h1:findV (sc.drop (i+1)).flatten s=none)(h2:findV (sc[i].drop (k+1)) s=none)(h3:sc[i][k].name=s):findV sc.flatten s=some sc[i][k]:=by
 have e:sc.flatten=(sc.take i).flatten++((sc[i].take k++[sc[i][k]])++sc[i].drop (k+1))++(sc.drop (i+1)).flatten:=by
  conv=>lhs;rw [← Bva i sc,Bka hi]
  rw [List.flatten_append,List.flatten_cons,Bga,← List.take_succ_eq_append_getElem hk,Bva,← Bga]
 rw [e,Uoa,h1,Aza,Uoa,Uoa,h2,Aza,Vsc,Wng h3];rfl
theorem Jqd{sc:List (List Vr)}{s:List UInt8}{i k:Nat}(hi:i<sc.length)(hk:k<sc[i].length)(h2:findV (sc[i].drop (k+1)) s=none)(h3:sc[i][k].name≠s):findV (sc[i].drop k) s=none:=by
 rw [Bka hk,← List.singleton_append,Uoa,h2,Aza];show findV ([]++[sc[i][k]]) s=none;rw [Vsc,Wmg h3];rfl
theorem Jrd{sc:List (List Vr)}{s:List UInt8}{i:Nat}(hi:i<sc.length)(h1:findV (sc.drop (i+1)).flatten s=none)(h2:findV sc[i] s=none):findV (sc.drop i).flatten s=none:=by
 rw [Bka hi,List.flatten_cons,Uoa,h1,Aza,h2]
def TyR(M:Nat→Nat→Bool)(w:Aa)(k:Nat):Prop:=∃ cs e fr,w.heap[k]? = some (.cells cs e fr)∧M e k=true
structure GT (M:Nat→Nat→Bool) (n0:Nat) (w w':Aa):Prop where
  os:w'.os=w.os
  tape:w'.tape=w.tape
  output:w'.output=w.output
  size:w.heap.size≤w'.heap.size
  block:∀ k,k<w.heap.size→(k<n0∨¬ TyR M w k)→w'.heap[k]? = w.heap[k]?
section
variable {M:Nat→Nat→Bool} {n0:Nat}
theorem GT.refl(M:Nat→Nat→Bool)(n0:Nat)(w:Aa):GT M n0 w w:=⟨rfl,rfl,rfl,Aqa _,fun _ _ _=>rfl⟩
theorem GT.trans{u v w:Aa}(h:GT M n0 u v)(k:GT M n0 v w):GT M n0 u w :=
 ⟨k.os.trans h.os,k.tape.trans h.tape,k.output.trans h.output,Aga h.size k.size,fun i hi hb=>by
 have e:=h.block i hi hb;refine (k.block i (Aua hi h.size) (hb.imp id fun hb hr=>hb ?_)).trans e;obtain ⟨cs,f,fr,hr,hm⟩:=hr;exact ⟨cs,f,fr,e.symm.trans hr,hm⟩⟩
theorem GT.of_g{w w':Aa}(h:G w w'):GT M n0 w w':=⟨h.os,h.tape,h.output,h.size,fun k hk _=>h.block hk⟩
theorem gtd{a w:Aa}(g:GT M n0 a w):GT M n0 a w.drew:=g.trans (GT.of_g (G.drew _))
theorem gtg{a w w':Aa}(g:GT M n0 a w)(h:G w w'):GT M n0 a w':=g.trans (GT.of_g h)
theorem GT.mono{n1:Nat}{w w':Aa}(h:GT M n1 w w')(hn:n0≤n1):GT M n0 w w':=⟨h.os,h.tape,h.output,h.size,fun k hk hb=>h.block k hk (hb.imp (fun hb=>Aua hb hn) id)⟩
theorem GT.below{w w':Aa}(h:GT M n0 w w')(hn:n0≤w.heap.size):Go.RowKit.Below n0 w w':=⟨h.os,h.tape,h.output,h.size,fun k hk=>h.block k O (.inl hk)⟩
theorem Ve{w0 w w':Aa}{row:Option Nat}(h:GT M n0 w0 w)(hg:w.grownBy w' row)(hr:∀ k,row=some k→w0.heap.size≤k):GT M n0 w0 w' :=
 ⟨hg.os.trans h.os,hg.tape.trans h.tape,hg.output.trans h.output,Aga h.size hg.size,fun k hk hb=>(hg.block k (Aua hk h.size) (fun e=>by have:=hr k e.symm;omega)).trans (h.block k hk hb)⟩
theorem Yd{w0 w w':Aa}{j:Nat}(h:GT M n0 w0 w)(hg:w.grownBy w' (some j))(hj:w0.heap.size≤j):GT M n0 w0 w' :=
 Ve h hg fun k hk=>by injection hk with hk;omega
theorem Uuf{w:Aa}{b:Nat}{e:Ba}{l:List Ga}(h:Blk w b e l)(he:M e=fun _=>true):TyR M w b:=⟨_,_,_,h,congrFun he b⟩
theorem Wdb{w:Aa}{b:Nat}{e:Ba}{l:List Ga}(h:Blk w b e l)(he:M e=fun _=>false):¬ TyR M w b:=fun ⟨cs,f,fr,hr,hm⟩=>by
 unfold Blk at h;rw [h] at hr;injection hr with hr;injection hr with _ hr;subst hr;rw [he] at hm;cases hm
theorem Uvf{w:Aa}{e:Ba}{z m:Nat}{v:Ga}{xs:List Ga}(h:w.ownsRow n0 e z v m xs)(he:M e=fun _=>true):∀ k,v.ownBlock=some k→n0≤k∧TyR M w k:=fun k hk=>by
 rcases h.2 with ⟨h1,_⟩|⟨g,cap,cur,h1,h2,h3,_⟩;rw [h1] at hk;cases hk;rw [h1] at hk;have:g=k:=by injection hk
 subst this;exact ⟨h2,_,_,_,h3,congrFun he _⟩
theorem Blk.gt{j:Nat}{w w':Aa}{e:Ba}{l:List Ga}(h:Blk w j e l)(g:GT M n0 w w')(he:M e=fun _=>false):Blk w' j e l :=
 (g.block j h.lt (.inr (Wdb h he))).trans h
theorem Obk.gt{w w':Aa}{L:List (Nat×Ba×List Ga)}(E:Obk w L)(g:GT M n0 w w')(ht:(L.all fun x=>!M x.2.1 x.1)=true):Obk w' L :=
 ⟨E.1,Yxa E.2 fun b e l hm h=>(g.block b h.lt (.inr fun ⟨cs,f,fr,hr,hM⟩=>by
 unfold Blk at h;rw [h] at hr;injection hr with hr;injection hr with _ hr;subst hr;have:=Aea.1 ht _ hm;simp [hM] at this)).trans h⟩
theorem Kd.gt{w w':Aa}{D:Nat→Prop}{ks:List Nd}{v:Ga}(h:Kd w D ks v)(g:GT M n0 w w')(hD:∀ k,D k→k<n0):Kd w' D ks v :=
 Wp h (fun _ h _=>h) fun k hk hlt=>g.block k hlt (.inl (hD k hk))
theorem RowAt.gt{j o:Nat}{w w':Aa}{l:List Ga}(h:RowAt w j o l)(g:GT M n0 w w')(hj:j<n0):RowAt w' j o l:=fun i v hi=>by
 have h1:=h i v hi;exact (Ia (g.block j (Ha w _ h1) (.inl hj))).trans h1
/-! blocks of nodes -/
def NdR(w:Aa)(k:Nat):Prop:=∃ cs fr,w.heap[k]? = some (.cells cs 26 fr)
theorem NdR.lt{w:Aa}{k:Nat}(h:NdR w k):k<w.heap.size:=by
 obtain ⟨cs,fr,h⟩:=h;exact (Ava.1 h).1
theorem Jl{w:Aa}{b:Nat}{l:List Ga}(h:Blk w b 26 l):NdR w b:=⟨_,_,h⟩
theorem NdR.same{w w':Aa}{k:Nat}(h:NdR w k)(e:w'.heap[k]? = w.heap[k]?):NdR w' k:=by
 obtain ⟨cs,fr,h⟩:=h;exact ⟨cs,fr,e.trans h⟩
theorem NdR.ntyr{w:Aa}{k:Nat}(h:NdR w k)(he:M 26=fun _=>false):¬ TyR M w k:=fun ⟨cs,f,fr,hr,hm⟩=>by
 obtain ⟨cs',fr',h⟩:=h;rw [h] at hr;injection hr with hr;injection hr with _ hr;subst hr;rw [he] at hm;cases hm
theorem NdR.gt{w w':Aa}{k:Nat}(h:NdR w k)(g:GT M n0 w w')(he:M 26=fun _=>false):NdR w' k:=h.same (g.block k h.lt (.inr (h.ntyr he)))
theorem NdR.grow{w w':Aa}{k:Nat}(h:NdR w k)(g:G w w'):NdR w' k:=h.same (g.block h.lt)
def KdN(lo:Nat)(w:Aa)(ks:List Nd)(v:Ga):Prop:=Kd w (fun k=>lo≤k∧NdR w k) ks v
theorem KdN.gt{lo:Nat}{w w':Aa}{ks:List Nd}{v:Ga}(h:KdN lo w ks v)(g:GT M n0 w w')(he:M 26=fun _=>false):KdN lo w' ks v :=
 Wp h (fun k hk _=>⟨hk.1,hk.2.gt g he⟩) fun k hk hlt=>g.block k hlt (.inr (hk.2.ntyr he))
theorem KdN.grow{lo:Nat}{w w':Aa}{ks:List Nd}{v:Ga}(h:KdN lo w ks v)(g:G w w'):KdN lo w' ks v :=
 Wp h (fun k hk _=>⟨hk.1,hk.2.grow g⟩) fun k hk hlt=>g.block hlt
theorem KdN.keep{lo:Nat}{w w':Aa}{row:Option Nat}{ks:List Nd}{v:Ga}(h:KdN lo w ks v)(hg:w.grownBy w' row)(hr:∀ k,row=some k→k<lo):KdN lo w' ks v :=
 Wp h (fun k hk hlt=>⟨hk.1,hk.2.same (hg.block k hlt fun e=>by have:=hr k e.symm;omega)⟩) fun k hk hlt=>hg.block k hlt fun e=>by have:=hr k e.symm;omega
theorem KdN.low{lo lo':Nat}{w:Aa}{ks:List Nd}{v:Ga}(h:KdN lo w ks v)(hl:lo'≤lo):KdN lo' w ks v:=Kd.mono h fun k hk _=>⟨O,hk.2⟩
theorem Yfb(lo:Nat)(w:Aa):KdN lo w [] (.slice none 0 0):=Qab _ _
def RetN(t:Nd)(lo:Nat)(r:Ga)(w:Aa):Prop:=∃ p c,r=ndV t (.slice p t.kids.length c)∧KdN lo w t.kids (.slice p t.kids.length c)
theorem Ygc(t:Nd)(lo:Nat)(w:Aa)(h:t.kids=[]):RetN t lo (ndV t (.slice none 0 0)) w:=⟨none,0,by rw [h];rfl,by rw [h];exact Yfb _ _⟩
theorem Yzd{t:Nd}{lo:Nat}{v:Ga}{w:Aa}(h:KdN lo w t.kids v):RetN t lo (ndV t v) w:=by
 obtain ⟨p,c,rfl,h2⟩:=h;exact ⟨p,c,rfl,p,c,rfl,h2⟩
def OwnN(X:List Nat)(lo:Nat)(w:Aa)(ks:List Nd)(s:Ga):Prop:=OwnK 26 (fun b=>Dx lo X b∧NdR w b) lo w ks s
section
variable {X:List Nat} {lo:Nat} {w w':Aa} {ks:List Nd} {s:Ga}
theorem Ypa(X:List Nat)(lo:Nat)(w:Aa):OwnN X lo w [] (.slice none 0 0):=Jte _ _ _ _
theorem OwnN.slice(h:OwnN X lo w ks s):∃ a c,s = .slice a ks.length c:=OwnK.slice h
theorem OwnN.ge(h:OwnN X lo w ks s):∀ k,s.ownBlock=some k→lo≤k:=OwnK.ge h
theorem OwnN.lt(h:OwnN X lo w ks s):∀ k,s.ownBlock=some k→k<w.heap.size:=OwnK.lt h
theorem OwnN.ne(h:OwnN X lo w ks s){b:Nat}(hb:b∈X):some b≠s.ownBlock:=OwnK.ne h fun hd=>hd.1.2 hb
theorem OwnN.nd(h:OwnN X lo w ks s):∀ k,s.ownBlock=some k→NdR w k:=fun k hk=>by
 obtain ⟨xs,_,_,h3⟩:=h;exact (h3 k hk).2
theorem Zhb{e:Ba}{D D':Nat→Prop}{base:Nat}(h:OwnK e D base w ks s)(hD:∀ b,D b→b<w.heap.size→D' b)(hs:∀ b,D b→b<w.heap.size→w'.heap[b]? = w.heap[b]?)(ho:∀ xs,w.ownsRow base e 9 s ks.length xs→w'.ownsRow base e 9 s ks.length xs):OwnK e D' base w' ks s:=by
 obtain ⟨xs,h1,h2,h3⟩:=h;exact ⟨xs,ho xs h1,Qc (fun b hb hlt=>⟨hD b hb.1 hlt,hb.2⟩) (fun b hb hlt=>hs b hb.1 hlt) _ _ h2,fun b hb=>hD b (h3 b hb) (h1.lt b hb).2⟩
theorem OwnN.grow(h:OwnN X lo w ks s)(g:G w w'):OwnN X lo w' ks s :=
 Zhb h (fun b hb _=>⟨hb.1,hb.2.grow g⟩) (fun b _ hlt=>g.block hlt) fun xs h=>Xw h g
theorem Zib{e:Ba}{base z m:Nat}{v:Ga}{xs:List Ga}(h:w.ownsRow base e z v m xs)(hs:∀ b,v.ownBlock=some b→w'.heap[b]? = w.heap[b]?):w'.ownsRow base e z v m xs:=by
 refine ⟨h.1,?_⟩;rcases h.2 with h1|⟨g,cap,cur,h1,h2,h3,h4⟩;exact .inl h1;exact .inr ⟨g,cap,cur,h1,h2,(hs g (by rw [h1];rfl)).trans h3,h4⟩
theorem OwnN.gt(h:OwnN X lo w ks s)(g:GT M n0 w w')(he:M 26=fun _=>false):OwnN X lo w' ks s:=by
 have hn:=h.nd;have hl:=h.lt;exact Zhb h (fun b hb _=>⟨hb.1,hb.2.gt g he⟩) (fun b hb hlt=>g.block b hlt (.inr (hb.2.ntyr he))) fun xs h=>Zib h fun b hb=>g.block b (hl b hb) (.inr ((hn b hb).ntyr he))
theorem OwnN.keep(h:OwnN X lo w ks s){b:Nat}(hg:w.grownBy w' (some b))(hb:b∈X):OwnN X lo w' ks s:=by
 have hne:=h.ne hb;refine Zhb h (fun k hk hlt=>⟨hk.1,hk.2.same (hg.block k hlt fun e=>by injection e with e;exact hk.1.2 (e▸hb))⟩) (fun k hk hlt=>hg.block k hlt fun e=>by injection e with e;exact hk.1.2 (e▸hb)) fun xs h=>Ym h hg (.inr fun e=>hne e.symm)
theorem OwnN.kd(h:OwnN X lo w ks s):KdN lo w ks s:=OwnK.kd h fun b hb=>⟨hb.1.1,hb.2⟩
end
end
section
variable {P:Fa} {Z:List Da→Act→Aa→Prop} {ops:List Oper} {cl:List Nat} {lv:List Bool} {W0:Aa} {n:Nat} {K:Act→Aa→Prop} {k:Nat} {rest:List Oper} {σ:List Ent} {w:Aa} {d:Nat} {ty:Ba} {pos:String} {after:Array Edge}
theorem Wca{t q q':Nat}{x y:Ea}{s zv:Ga}{news:List Ga}{b' o' lo:Nat}{X:List Nat}{ks ls:List Nd}(hb:(Aha (clOf cl k) 2&&Nat.blt d n)=true)(ht:tyElem P t=some (26,9,104))(hzv:zeroOf P 26=some zv)
 (hzs:zv.cells.size=9) (hx:Ev n σ True x s) (hO:OwnN X lo w ks s) (hy:Ev n σ True y (.slice (some ⟨b',o',none⟩) q q')) (hq:ls.length=q) (hn:RowAt w b' o' news) (hK:KRow w (fun b=>(Dx lo X b∧NdR w b)∧some b≠s.ownBlock) ls news)
 (hlen:ks.length+ls.length≤10000000) (hbase:lo≤w.heap.size) (hD:Dx lo X w.heap.size)
 (h:∀ a' c' w',OwnN X lo w' (ks++ls) (.slice a' (ks++ls).length c')→w.grownBy w' s.ownBlock→SR P Z ops cl lv W0 n K (k+1) rest ((d,True,.slice a' (ks++ls).length c') :: σ) w') :
 SR P Z ops cl lv W0 n K k (⟨some d,.call { callee:=.builtin .append,args:=#[x,y],argTypes:=#[t,t] },ty,pos,after,none⟩::rest) σ w:=by
 obtain ⟨xs,h1,h2,h3⟩:=id hO;subst hq;have ones:=Wtb hK;refine Um hb ht hzv hzs Od hx h1 hy (Woa hK) hn ones (by simp only [maxLen];omega) O hbase fun a' c' w' ho hg hat=>?_;have hlen':(ks++ls).length=ks.length+ls.length:=by simp
 have hnd:∀ b,(Value.slice a' (ks.length+ls.length) c').ownBlock=some b→NdR w' b:=fun b hb=>by
  rcases ho.2 with ⟨q1,_⟩|⟨g,cap,cur,q1,_,q3,_⟩;rw [q1] at hb;cases hb;rw [q1] at hb;have:g=b:=by injection hb
  subst this;exact ⟨_,_,q3⟩
 have hO':OwnN X lo w' (ks++ls) (.slice a' (ks++ls).length c'):=by
  refine ⟨xs++news,by rw [hlen'];exact ho,?_,?_⟩;rw [hlen'];refine Qc (fun b hb hlt=>⟨⟨hb.1.1,hb.1.2.same (hg.block b hlt hb.2)⟩,?_⟩) (fun b hb hlt=>hg.block b hlt hb.2) _ _ (Wpa h2 hK);rcases hat with he|he <;> rw [he]
  exact hb.2;intro e;injection e with e;omega;rw [hlen'];intro b hb;refine ⟨?_,hnd b hb⟩;rcases hat with he|he <;> rw [he] at hb
  exact (h3 b hb).1;injection hb with hb;exact hb▸hD
 have:=h a' c' w' hO' hg;rwa [Bha] at this
end
section
variable {w w':Aa} {base:Nat} {e:Ba} {z m q:Nat} {v:Ga} {o:Option Addr} {xs:List Ga}
theorem Xad{j:Nat}(h:w.ownsRow base e z (.slice o m q) m xs)(hj:j≤m):w.ownsRow base e z (.slice o j q) j (xs.take (j*z)):=by
 have hl:j*z≤m*z:=Bwa z hj;refine ⟨by rw [Aya,h.1];omega,?_⟩;rcases h.2 with ⟨h1,h2⟩|⟨g,cap,cur,h1,h2,h3,h4,h5,h6,h7⟩;injection h1 with e1 e2 e3;subst e1;subst e3;exact .inl ⟨by rw [show j=0 by omega],O⟩;injection h1 with e1 e2 e3;subst e1;subst e3;exact .inr ⟨g,q,cur,rfl,h2,h3,O,h5,h6,by rw [← h7,List.take_take,Nat.min_eq_left hl]⟩
theorem Wyb(h:w.ownsRow base e z v m xs)(hm:0<m):∃ g c l,v = .slice (some ⟨g,0,none⟩) m c∧base≤g∧Blk w g e l∧m≤c∧l.length=c*z∧l.take (m*z)=xs∧
 ∀ w' l',Blk w' g e l'→l'.length=c*z→w'.ownsRow base e z v m (l'.take (m*z)):=by
 rcases h.2 with ⟨_,h2⟩|⟨g,cap,cur,h1,h2,h3,h4,h5,h6,h7⟩;omega;refine ⟨g,cap,cur.toList,h1,h2,by simpa [Blk] using h3,h4,by simpa using h6,h7,fun w' l' hB hl=>⟨?_,.inr ⟨g,cap,l'.toArray,h1,h2,hB,h4,h5,by simpa using hl,by simp⟩⟩⟩;rw [Aya,hl];have:=Bwa z h4;omega
theorem take_set{α:Type}(l:List α)(i n:Nat)(u:α)(h:i<n):(l.set i u).take n=(l.take n).set i u:=by
 rw [List.take_set]
end
def mutR(e _k:Nat):Bool:=Aha e 67 || (Aha e 96 || Aha e 3)
def ckCells(F:Nd)(fv sv sn:Ga)(S:CSt):List Ga:=ndCells F fv++[sv,.int .i64 S.scope,.int .i64 S.level,sn,.int .i64 S.result.kind,Str S.result.name,.int .i64 S.ea,.int .i64 S.ee]
structure CK (F:Nd) (n0 b:Nat) (S:CSt) (fv sv sn:Ga) (w:Aa):Prop where
  B:Blk w b 67 (ckCells F fv sv sn S)
  hb:n0≤b
  kF:Kd w (fun k=>k<n0) F.kids fv
  hF:count F≤1000000
  ov:w.ownsRow n0 96 6 sv S.vars.length (S.vars.flatMap vrCells)
  on:w.ownsRow n0 3 1 sn S.next.length (S.next.map fun (k:Nat)=>Value.int .i64 (k:Int))
def Chk(F:Nd)(n0 b:Nat)(S:CSt)(w:Aa):Prop:=∃ fv sv sn,CK F n0 b S fv sv sn w
section
variable {F:Nd} {n0 b:Nat} {S S':CSt} {fv sv sn sv' sn':Ga} {w w' w1 w2:Aa}
theorem Wb{e e':Ba}{z m j:Nat}{v:Ga}{xs l:List Ga}(h:w.ownsRow n0 e z v m xs)(hB:Blk w j e' l)(he:Aha e e'=false):v.ownBlock≠some j:=fun hk=>by
 rcases h.2 with ⟨h1,_⟩|⟨g,cap,cur,h1,h2,h3,_⟩;rw [h1] at hk;cases hk;rw [h1] at hk;have:g=j:=by injection hk
 subst this;unfold Blk at hB;rw [hB] at h3;injection h3 with h3;injection h3 with _ h3;subst h3;simp at he
theorem Yja{e e':Ba}{z z' m m':Nat}{v v':Ga}{xs xs':List Ga}(h:w.ownsRow n0 e z v m xs)(h':w.ownsRow n0 e' z' v' m' xs')(he:Aha e e'=false):v.ownBlock=none∨v.ownBlock≠v'.ownBlock:=by
 rcases h.2 with ⟨h1,_⟩|⟨g,cap,cur,h1,h2,h3,_⟩;exact .inl (by rw [h1];rfl);refine .inr fun hk=>?_;rcases h'.2 with ⟨h1',_⟩|⟨g',cap',cur',h1',h2',h3',_⟩;rw [h1,h1'] at hk;cases hk;rw [h1,h1'] at hk;have:g=g':=by injection hk
 subst this;rw [h3] at h3';injection h3' with h3';injection h3' with _ h3';subst h3';simp at he
theorem Zvf{M:Nat→Nat→Bool}{e:Ba}{z m:Nat}{v:Ga}{xs:List Ga}{row:Option Nat}(h:w.ownsRow n0 e z v m xs)(he:M e=fun _=>true)(hg:w.grownBy w' row)(hr:∀ k,row=some k→¬ TyR M w k):w'.ownsRow n0 e z v m xs:=by
 have ht:=Uvf h he;refine Ym h hg ?_;rcases h.2 with ⟨h1,_⟩|⟨g,cap,cur,h1,_⟩;exact .inl (by rw [h1];rfl);refine .inr fun hk=>?_;have hv:v.ownBlock=some g:=by rw [h1];rfl
 exact hr g (hk.symm.trans hv) (ht g hv).2
theorem Jsd(w:Aa)(row:Option Nat):w.grownBy w row:=⟨rfl,rfl,rfl,Aqa _,fun _ _ _=>rfl⟩
theorem CK.lt(h:CK F n0 b S fv sv sn w):n0≤b∧b<w.heap.size:=⟨h.hb,h.B.lt⟩
theorem CK.grow(h:CK F n0 b S fv sv sn w)(g:G w w'):CK F n0 b S fv sv sn w':=⟨h.B.grow g,h.hb,h.kF.grow g,h.hF,Xw h.ov g,Xw h.on g⟩
theorem CK.keepr{row:Option Nat}(h:CK F n0 b S fv sv sn w)(hg:w.grownBy w' row)(hr:∀ k,row=some k→n0≤k∧¬ TyR mutR w k):CK F n0 b S fv sv sn w' :=
 ⟨h.B.keep hg (fun e=>(hr b e.symm).2 (Uuf h.B rfl)),h.hb,h.kF.keep hg fun k hk _ e=>by have:=(hr k e.symm).1;omega,h.hF,Zvf h.ov rfl hg fun k hk=>(hr k hk).2,Zvf h.on rfl hg fun k hk=>(hr k hk).2⟩
def vr0:Vr:=⟨[],ty0,0,0,0⟩
theorem CK.chk(h:CK F n0 b S fv sv sn w):Chk F n0 b S w:=⟨_,_,_,h⟩
theorem Chk.lt(h:Chk F n0 b S w):n0≤b∧b<w.heap.size:=by obtain ⟨_,_,_,h⟩:=h;exact h.lt
theorem Chk.grow(h:Chk F n0 b S w)(g:G w w'):Chk F n0 b S w':=by obtain ⟨_,_,_,h⟩:=h;exact (h.grow g).chk
theorem Chk.keepr{row:Option Nat}(h:Chk F n0 b S w)(hg:w.grownBy w' row)(hr:∀ k,row=some k→n0≤k∧¬ TyR mutR w k):Chk F n0 b S w':=by obtain ⟨_,_,_,h⟩:=h;exact (h.keepr hg hr).chk
theorem CK.keep{j:Nat}{e:Ba}{l:List Ga}(h:CK F n0 b S fv sv sn w)(hg:w.grownBy w' (some j))(hB:Blk w j e l)(he:mutR e=fun _=>false)(hj:n0≤j):CK F n0 b S fv sv sn w' :=
 h.keepr hg fun k hk=>by injection hk with hk;subst hk;exact ⟨hj,Wdb hB he⟩
theorem Chk.keep{j:Nat}{e:Ba}{l:List Ga}(h:Chk F n0 b S w)(hg:w.grownBy w' (some j))(hB:Blk w j e l)(he:mutR e=fun _=>false)(hj:n0≤j):Chk F n0 b S w':=by obtain ⟨_,_,_,h⟩:=h;exact (h.keep hg hB he hj).chk
theorem CK.keepO{X:List Nat}{lo:Nat}{ks:List Nd}{s:Ga}(h:CK F n0 b S fv sv sn w)(hg:w.grownBy w' s.ownBlock)(hO:OwnN X lo w ks s)(hj:n0≤lo):CK F n0 b S fv sv sn w' :=
 h.keepr hg fun k hk=>⟨Aga hj (hO.ge k hk),(hO.nd k hk).ntyr rfl⟩
theorem Chk.keepO{X:List Nat}{lo:Nat}{ks:List Nd}{s:Ga}(h:Chk F n0 b S w)(hg:w.grownBy w' s.ownBlock)(hO:OwnN X lo w ks s)(hj:n0≤lo):Chk F n0 b S w':=by obtain ⟨_,_,_,h⟩:=h;exact (h.keepO hg hO hj).chk
theorem CK.set(h:CK F n0 b S fv sv sn w)(hg:w.grownBy w' (some b))(hB:Blk w' b 67 (ckCells F fv sv sn S'))(hv:S'.vars=S.vars)(hn:S'.next=S.next):CK F n0 b S' fv sv sn w' :=
 ⟨hB,h.hb,h.kF.keep hg fun k hk _ e=>by injection e with e;have:=h.hb;omega,h.hF,by rw [hv];exact Ym h.ov hg (.inr (Wb h.ov h.B rfl)),by rw [hn];exact Ym h.on hg (.inr (Wb h.on h.B rfl))⟩
end
theorem Jtd(t:Nd)(name:List UInt8)(hc:count t≤1000000):(Ut t name).1.length≤1000000:=by
 unfold Ut
 cases hf:t.kids.find? (isStr name) with
 | none=>exact Aca _
 | some d =>
  cases hm:mapO Qj d.kids with
  | none=>simp only [hm];exact Aca _
  | some l =>
   simp only [hm];have:=Vec Qj _ _ hm;have:=Xaa (Bja hf);have:=Wn d;omega
theorem Vld{α:Type}{l xs:List α}{m i:Nat}(h:l.take m=xs)(hi:i<m):l[i]? = xs[i]?:=by
 rw [← h,List.getElem?_take,if_pos hi]
theorem Yye{α:Type}{l:List α}{o:Nat}(h:o<l.length)(v:α):l.set o v=l.take o++[v]++l.drop (o+[v].length):=by
 rw [List.set_eq_take_append_cons_drop,if_pos h];simp
structure FSh (F:Nd):Prop where
  k6:∀ d∈F.kids,d.kind=6→1≤d.kids.length
  k4:∀ d∈F.kids,d.kind=4→2≤d.kids.length
  kp:∀ d∈F.kids,d.kind=4→∀ f∈(Zb d 0).kids,1≤f.kids.length
theorem Zjb{kd:Int}{s:List UInt8}:∀ (l:List Nd) (k:Nat),0≤(findK kd s l k).2→(findK kd s l k).1∈l∧(findK kd s l k).1.kind=kd
 | [],k,h=>absurd h (show ¬ (0:Int)≤-1 by decide)
 | d::l,k,h=>by
  rw [findK] at h ⊢;cases h1:decide (d.kind=kd);rw [h1,Wtg] at h;have:=Zjb l k h;exact ⟨Aoa _ this.1,this.2⟩;rw [h1,Wug] at h;rw [Wug];cases h2:decide (d.text=s);rw [h2,Wtg] at h;have:=Zjb l (k+1) h;exact ⟨Aoa _ this.1,this.2⟩;exact ⟨Ata,Wrg h1⟩
theorem FSh.l6{F:Nd}(H:FSh F){s:List UInt8}(h:0≤(findD F 6 s).2):0<(findD F 6 s).1.kids.length:=H.k6 _ (Zjb _ _ h).1 (Zjb _ _ h).2
theorem FSh.l4{F:Nd}(H:FSh F){s:List UInt8}(h:0≤(findD F 4 s).2):2≤(findD F 4 s).1.kids.length:=H.k4 _ (Zjb _ _ h).1 (Zjb _ _ h).2
end Go.Rk
