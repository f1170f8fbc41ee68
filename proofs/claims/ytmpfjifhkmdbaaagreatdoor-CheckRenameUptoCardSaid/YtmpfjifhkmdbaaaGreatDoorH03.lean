/- Merged texts. Conditions: each text's own. -/
import Derived.Test.YtmpfjifhkmdbaaaGreatDoorH02
import Derived.Test.YtmpfjifhkmdbaaaGreatDoorH01
import Derived.MapKept
import Derived.Lib.ItoaNum
import Derived.Laws.MakeOwn
import Derived.Laws.BytesString
import Derived.Lib.ConvBytes
import Derived.Lib.AtoiErrMem
import Derived.Laws.OwnMore
set_option linter.unusedSimpArgs false
set_option linter.unusedVariables false
set_option maxHeartbeats 16000000
set_option maxRecDepth 100000
open Array renaming getElem?_setIfInBounds→Cfa
open Bool renaming and_eq_true→Aaa,or_eq_true→Aba,and_assoc→Aca,and_eq_true_iff→Aja,eq_iff_iff→Aza,or_eq_false_iff→Baa,false_and→Bba,or_false→Bca,true_and→Bma,and_comm→Boa,and_left_comm→Cba
open Go renaming World→Aa,TypeId→Ba,PanicEntry→Da,Operand→Ea,Program→Fa,Value→Ga
open Go.Result renaming andThen_ok→Ha
open Go.World renaming block_lt_of_cell?→Ia,cell?_of_block→Ka
open List renaming getElem_mem→Afa,getD_eq_getElem?_getD→Aga,all_eq_true→Aia,getElem?_eq_none→Aka,getElem?_eq_getElem→Ala,length_append→Ama,getElem?_map→Ana,mem_cons_of_mem→Aoa,length_take→Apa,range→Ara,mem_range→Asa,mem_append→Ata,mem_reverse→Aua,mem_cons_self→Ava,getElem?_set_ne→Awa,getElem?_append_left→Bda,mem_cons→Bea,map_map→Bha,map_congr_left→Bia,getElem?_set_self→Bja,all_map→Bla,range_succ→Bna,mem_singleton→Bpa,append_assoc→Bqa,length_set→Bra,length_cons→Bsa,mem_of_find?_eq_some→Bta,map_cons→Bua,drop_eq_getElem_cons→Bva,getElem?_append_right→Bwa,getElem_of_mem→Bya,length_eq_zero_iff→Bza,length_eq_one_iff→Caa,length_reverse→Cca,dropWhile_sublist→Cda,reverse_append→Cea,filter_cons_of_neg→Cga,filter_cons_of_pos→Cha,take_append_drop→Cia,getElem?_take→Cka,getElem?_eq_some_iff→Cla
open Nat renaming beq→Ada,zero_le→Aea,le_trans→Aha,le_refl→Aqa,lt_of_lt_of_le→Axa,blt→Aya,zero_add→Bfa,not_lt_zero→Bka,sub_self→Bxa,mul_le_mul_right→Cja
open Option renaming none_or→Bga
namespace Go.Proofs
end Go.Proofs
namespace Go.Rk
open Go.Proofs
open Go Go.RowKit
theorem Xie{w:Aa}{D:Nat→Prop}{t:Nd}{p:Option Addr}{c:Nat}(hk:Kd w D t.kids (.slice p t.kids.length c))(i:Nat):∃ p' c',i<t.kids.length→p=some ⟨pb p,po p,none⟩∧RowAt w (pb p) (po p+i*9) (ndCells (Za t i) (.slice p' (Za t i).kids.length c'))∧Kd w D (Za t i).kids (.slice p' (Za t i).kids.length c'):=by
 by_cases h:i<t.kids.length;obtain ⟨h1,p',c',h2,h3⟩:=Yr hk h;exact ⟨p',c',fun _=>⟨h1,h2,h3⟩⟩;exact ⟨none,0,fun h'=>absurd h' h⟩
def lenK(t:Nd)(n:Int):Bool:=decide ((t.kids.length:Int)=n)
def Vu(k:Nd):Bool:=decide (k.kind=6)&&(!lenK k 2 || !decide ((Za k 1).kind=9))
def formB(t:Nd):Bool :=
 bif decide (t.kind=1) then !(t.kids.any Vu)&&everyB t (memK [2,6,4])
 else bif anyK [2,5] t.kind then everyB t (memK [3])
 else bif decide (t.kind=3) then kidsB t [typK]
 else bif decide (t.kind=4) then kidsB t [memK [5],fun k=>typK k || memK [9] k,memK [10]]
 else bif decide (t.kind=6) then kidsB t [typK,fun k=>expK k || memK [9] k]
 else bif decide (t.kind=10) then everyB t stK
 else bif anyK [11,17,21,28,31,33,35,36,37] t.kind then kidsB t [expK]
 else bif anyK [12,16,29,32] t.kind then kidsB t [expK,expK]
 else bif decide (t.kind=13) then kidsB t [memK [30,33]]
 else bif anyK [14,15] t.kind then kidsB t [memK [30]]
 else bif decide (t.kind=18) then kidsB t [expK,memK [10],memK [10,18,9]]
 else bif decide (t.kind=19) then kidsB t [fun k=>expK k || memK [9] k,memK [10]]
 else bif decide (t.kind=20) then lenK t 0 || kidsB t [expK]
 else bif decide (t.kind=22) then everyB t (memK [23])
 else bif decide (t.kind=23) then (lenK t 2&&commB (Za t 0))&&memK [10] (Za t 1).kind
 else bif decide (t.kind=30) then decide ((0:Int)<t.kids.length)&&everyB t expK
 else bif decide (t.kind=24) then lenK t 0&&decide (0≤t.num)
 else bif decide (t.kind=25) then lenK t 0&&(decide (t.num=0) || decide (t.num=1))
 else bif anyK [27,34,26,9,7,8] t.kind then lenK t 0
 else bif decide (t.kind=38) then kidsB t [memK [10]]
 else false
theorem Jgf(t:Nd)(p:Option Addr)(c:Nat)(D:Nat→Prop)(w:Aa)(hk:Kd w D t.kids (.slice p t.kids.length c))(hc:t.kids.length≤1000000)(hcc:∀ i,(Za t i).kids.length≤1000000):Ret PP 84 #[ndV t (.slice p t.kids.length c)] w fun v w'=>v = .bool (formB t)∧G w w':=by
   have g := G.refl w
   have hc0 := hc
   refine WK 221 [0] Tryz.func84 ?_
   refine BM fun _ _ _ _ g E => ?_
   refine CN fun _ _ _ _ g E => ?_
   refine CL (Yfa [10] _ _ _ _ E.g0.row (by decide)) ?_
   rintro v8 w8 ⟨hA8, g8⟩
   have hq8 := hA8
   obtain ⟨f8, fs8, cs8, rfl, hgo8, hf8⟩ := hq8
   refine ⟨fun _ => g8, ?_⟩
   have g := g.trans g8
   replace E := E.grow g8
   have gm8 := G.refl w8
   refine CN fun _ _ ga _ g E => ?_
   have l9_gm8 := ga.ge gm8
   have gm8 := gm8.trans (ga.g)
   refine CL (Yfa [3] _ _ _ _ E.g0.row (by decide)) ?_
   rintro v10 w10 ⟨hA10, g10⟩
   have hq10 := hA10
   obtain ⟨f10, fs10, cs10, rfl, hgo10, hf10⟩ := hq10
   refine ⟨fun _ => g10, ?_⟩
   have g := g.trans g10
   have gm8 := gm8.trans (g10)
   replace E := E.grow g10
   have gm10 := G.refl w10
   refine IF (fun h1 => ?_) fun h1 => ?_
   · (try simp only [bsimp] at h1)
     refine AU ?_
     refine Qk (fun (i : Nat) u1 => (i ≤ t.kids.length ∧ ∀ j, (h : j < t.kids.length) → j < i → Vu t.kids[j] = false) ∧ G w10 u1) [(1, True, _), (16, True, _), (17, True, _)] (fun (i : Nat) => [(18, True, .int .i64 i)]) (fun (i : Nat) => t.kids.length - i) (0) ⟨⟨Aea _, fun j _ hj => absurd hj (Bka j)⟩, G.refl _⟩ (Zb J (Zb J (Zb J (Zb J (Zq _))))) ?_
     rintro i u1 ⟨hI1, gl1⟩
     have g := g.trans gl1
     have gm8 := gm8.trans gl1
     have gm10 := gm10.trans gl1
     replace E := E.grow gl1
     refine IF (fun h2 => ?_) fun h2 => ?_
     · replace h2 : i < t.kids.length := by simp only [Zah] at h2; omega
       obtain ⟨hpe, p2, c2, hcell, hkid⟩ := Yr hk h2
       have hcci := hcc i
       refine Yu (kq (Zk (Yw (Zk (Zn (Yja Zd J J (by omega) hpe (Va Zf J J (hcell.grow g) (AN fun _ _ ga _ g E => ?_))))))))
       have l6_gm8 := ga.ge gm8
       have l6_gm10 := ga.ge gm10
       have l6_gl1 := ga.ge gl1
       have gm8 := gm8.trans (ga.g)
       have gm10 := gm10.trans (ga.g)
       have gl1 := gl1.trans (ga.g)
       refine AS fun _ ga _ g E => ?_
       first | replace gm8 := Yq gm8 ga (by omega) | clear gm8 | skip
       first | replace gm10 := Yq gm10 ga (by omega) | clear gm10 | skip
       first | replace gl1 := Yq gl1 ga (by omega) | clear gl1 | skip
       refine Ze (kq (Zk (Zn (Xa Xd J (Xn Yf J (E.g0.at_ J) (Yjb J J (Zu J (Zv J J J (fun _ => Zh Zg (Zc J)) (Wb J J J (Zt Zi (Yc J id) (fun _ => E.g0.at_ J)) (Zv J J J (fun _ => Qha Zd (Yc J id)) (Zv J J J (fun _ => Woa (Yc J id) Xv) (Zv J J J (fun _ => Zw (Yc J id)) (Zv J J J (fun _ => Zh Zg (Zc J)) (Wb J J J (Zt Zi (Yc J id) (fun _ => E.g0.at_ J)) (Zv J J J (fun _ => Xr Zd (Yc J id) Xv (fun hc => by have := hc.2; simp only [Bool.not_eq_false', Zah] at this; omega) (fun hc => (Yr hkid (i := 1) (by have := hc.2; simp only [Bool.not_eq_false', Zah] at this; omega)).1)) (Zv J J J (fun _ => Zh Xd (Yc J id)) (?_)))))))))))))))))
       refine Wb J J J (Zt Yf (Yc J id) (fun hc => by
 obtain ⟨_,p',c',hcell',_⟩:=Yr hkid (i:=1) (by have:=hc.2;simp only [Bool.not_eq_false',Zah] at this;omega)
 exact (hcell'.grow g) 0 _ rfl)) (Zv rfl rfl rfl (fun _=>Woa (Yc rfl id) Xv) (Zv rfl rfl rfl (fun _=>Xo (Yc rfl id) (Yc rfl id)) (Zz rfl (fun _=>Wn (Zc rfl) (Yc rfl id)) (Ze (kq (Um rfl (fun h3=>?_) (fun h3=>?_)))))))
       · replace h3:(Vu (Za t i))=true:=h3
         have hany:t.kids.any Vu=true:=List.any_eq_true.2 ⟨_,Afa h2,by rw [← Yj h2];exact h3⟩
         refine RTN ?_
         refine ⟨Jzg ?_,g⟩
         unfold formB;rw [h1,hany];rfl
       replace h3:(Vu (Za t i))=false:=h3
       refine AU ?_
       refine SK [18,1,16,17] ?_
       refine Ze (fun a ha=>?_)
       refine ⟨i+1,ha,⟨⟨h2,fun j h hj=>?_⟩,gl1⟩,O⟩
       by_cases e:j=i
       · subst e;rw [← Yj h2];exact h3
       · exact hI1.2 j h O
     replace h2:i=t.kids.length:=by simp only [Zbh] at h2;omega
     have hnone:t.kids.any Vu=false:=by
       rw [List.any_eq_false];intro x hx
       obtain ⟨j,hj,rfl⟩:=Bya hx
       rw [hI1.2 j hj O];simp
     refine AU ?_
     refine Xg [0,1,1,1,3] [true,true,true,true,true] [0,0,2,7,15] mix KR ?_
     have g:=gdr g
     have gm8:=gm8.trans (G.drew _)
     have gm10:=gm10.trans (G.drew _)
     have gl1:=gl1.trans (G.drew _)
     replace E:=E.dr
     refine CN fun _ _ ga _ g E=>?_
     have l41_gm8:=ga.ge gm8
     have l41_gm10:=ga.ge gm10
     have l41_gl1:=ga.ge gl1
     refine CL (Yfa [2,6,4] _ _ _ _ E.g0.row Od) ?_
     rintro v42 w42 ⟨hA42,g42⟩
     have hq42:=hA42
     obtain ⟨f42,fs42,cs42,rfl,hgo42,hf42⟩:=hq42
     refine ⟨fun _=>g42,?_⟩
     have g:=g.trans g42
     replace E:=E.grow g42
     have gm42:=G.refl w42
     refine CP (Wnb t _ _ D (memK [2,6,4]) _ _ (hk.grow g) (hA42.grow gm42) hc) (fun w43 g43=>?_)
     have g:=g.trans g43
     replace E:=E.grow g43
     refine RTN ?_
     refine ⟨Jzg ?_,g⟩
     unfold formB;rw [h1,hnone];rfl
   refine AU ?_
   refine' OR [1,2,3,4,12] (fun hb4=>?y4) (kq ?n4)
   case y4 =>
    refine AU ?_
    refine SK [44,1,2,3,4,12] ?_
    exact Ze knr
   case n4 =>
    refine IF (fun h5=>?_) fun h5=>?_
    · (try simp only [bsimp] at h5)
      refine AU ?_
      refine CP (Wnb t _ _ D (memK [3]) _ _ (hk.grow g) (hA10.grow gm10) hc) (fun w49 g49=>?_)
      have g:=g.trans g49
      replace E:=E.grow g49
      refine RTN ?_
      refine ⟨Jzg ?_,g⟩
      unfold formB;simp only [anyK,h1,h5,Zfh,Zeh] <;> rfl
    refine IF (fun h6=>?_) fun h6=>?_
    · (try simp only [bsimp] at h6)
      refine CN fun _ _ ga _ g E=>?_
      have l53_gm8:=ga.ge gm8
      have l53_gm10:=ga.ge gm10
      refine CP (Yka t _ _ D [typK] _ _ _ _ _ (hk.grow g) J E.g0.row (fun i h=>by match i,h with|0,_=>exact Xra Zja Wmb _) hc) (fun w54 g54=>?_)
      have g:=g.trans g54
      replace E:=E.grow g54
      refine RTN ?_
      refine ⟨Jzg ?_,g⟩
      unfold formB;simp only [anyK,h1,h5,h6,Zfh,Zeh] <;> rfl
    refine IF (fun h7=>?_) fun h7=>?_
    · (try simp only [bsimp] at h7)
      refine AU ?_
      refine Yx (rowR none) [0,1,1,1,1,3,1,1,3] [0,0,2,0,14,0,62,127,255] mix KR [0,1,2,3,4,5,6,7,8] J ?_
      have g:=gdr g
      have gm8:=gm8.trans (G.drew _)
      have gm10:=gm10.trans (G.drew _)
      replace E:=E.dr
      refine Yg 0 J J (fun w1 hx=>Zo Zf (Zc J) J (fun _=>(E.g2.keep hx (fun h=>nomatch h)).row)) (Zr 5 J J (fun _=>Zw (Zc J)) (Yib 1 3 J J ?_ ?_))
      · refine Zl (L':=[2,3,4,6,7,8]) [0,1,1,1,1,3,1,1,3] rfl rfl rfl ?_
        refine CN fun _ _ N58 l58 g E=>?_
        have l58_gm8:=N58.ge gm8
        have l58_gm10:=N58.ge gm10
        have gm8:=gm8.trans (N58.g)
        have gm10:=gm10.trans (N58.g)
        refine Zs ((N58.g).only _) ?_
        refine Yib 2 3 J J ?_ ?_
        · refine Zl (L':=[3,4,6,7,8]) [0,1,1,1,1,3,1,1,3] rfl rfl rfl ?_
          refine CL (Yfa [5] _ _ _ _ E.g0.row Od) ?_
          rintro v59 w59 ⟨hA59,g59⟩
          have hq59:=hA59
          obtain ⟨f59,fs59,cs59,rfl,hgo59,hf59⟩:=hq59
          refine ⟨fun _=>g59,?_⟩
          have g:=g.trans g59
          have gm8:=gm8.trans (g59)
          have gm10:=gm10.trans (g59)
          replace E:=E.grow g59
          have gm59:=G.refl w59
          refine Zs ((g59).only _) ?_
          refine Zm 3 J J ?_
          refine Zl (L':=[4,6,7,8]) [0,1,1,1,1,3,1,1,3] J J J ?_
          refine CN fun _ _ N60 l60 g E=>?_
          have l60_gm8:=N60.ge gm8
          have l60_gm10:=N60.ge gm10
          have l60_gm59:=N60.ge gm59
          have gm8:=gm8.trans (N60.g)
          have gm10:=gm10.trans (N60.g)
          have gm59:=gm59.trans (N60.g)
          refine Zs ((N60.g).only _) ?_
          refine Zm 4 J J ?_
          refine Zl (L':=[6,7,8]) [0,1,1,1,1,3,1,1,3] J J J ?_
          refine CL (Ztb typK [9] _ _ _ _ _ (Xra Zja Wmb _) E.g0.row Od) ?_
          rintro v61 w61 ⟨hA61,g61⟩
          have hq61:=hA61
          obtain ⟨f61,fs61,cs61,rfl,hgo61,hf61⟩:=hq61
          refine ⟨fun _=>g61,?_⟩
          have g:=g.trans g61
          have gm8:=gm8.trans (g61)
          have gm10:=gm10.trans (g61)
          have gm59:=gm59.trans (g61)
          replace E:=E.grow g61
          have gm61:=G.refl w61
          refine Zs ((g61).only _) ?_
          refine Zm 6 J J ?_
          refine Zl (L':=[7,8]) [0,1,1,1,1,3,1,1,3] J J J ?_
          refine CN fun _ _ N63 l63 g E=>?_
          have l63_gm8:=N63.ge gm8
          have l63_gm10:=N63.ge gm10
          have l63_gm59:=N63.ge gm59
          have l63_gm61:=N63.ge gm61
          have gm8:=gm8.trans (N63.g)
          have gm59:=gm59.trans (N63.g)
          have gm61:=gm61.trans (N63.g)
          refine Zs ((N63.g).only _) ?_
          refine Zm 7 J J ?_
          refine Zl (L':=[8]) [0,1,1,1,1,3,1,1,3] J J J ?_
          refine CP (Yka t _ _ D [memK [5],fun k=>typK k || memK [9] k,memK [10]] _ _ _ _ _ (hk.grow g) J E.g0.row (fun i h=>by match i,h with|0,_=>exact hA59.grow gm59|1,_=>exact hA61.grow gm61|2,_=>exact hA8.grow gm8) hc) (fun w64 g64=>?_)
          have g:=g.trans g64
          replace E:=E.grow g64
          refine Zs ((g64).only _) ?_
          refine Zr 8 J J (fun _=>Ji (Zc J)) (TK [2] (Jl (kq (We (Vz J J ?_)))))
          refine ⟨Jzg ?_,g⟩
          unfold formB;simp only [anyK,h1,h5,h6,h7,Zfh,Zeh] <;> rfl
        · refine Zl (L':=[2,4,6,7,8]) [0,1,1,1,1,3,1,1,3] rfl rfl rfl ?_
          refine CN fun _ _ N60 l60 g E=>?_
          have l60_gm8:=N60.ge gm8
          have l60_gm10:=N60.ge gm10
          have gm8:=gm8.trans (N60.g)
          have gm10:=gm10.trans (N60.g)
          refine Zs ((N60.g).only _) ?_
          refine Zm 2 J J ?_
          refine Zl (L':=[4,6,7,8]) [0,1,1,1,1,3,1,1,3] J J J ?_
          refine CL (Yfa [5] _ _ _ _ E.g1.row Od) ?_
          rintro v59 w59 ⟨hA59,g59⟩
          have hq59:=hA59
          obtain ⟨f59,fs59,cs59,rfl,hgo59,hf59⟩:=hq59
          refine ⟨fun _=>g59,?_⟩
          have g:=g.trans g59
          have gm8:=gm8.trans (g59)
          have gm10:=gm10.trans (g59)
          replace E:=E.grow g59
          have gm59:=G.refl w59
          refine Zs ((g59).only _) ?_
          refine Zm 4 J J ?_
          refine Zl (L':=[6,7,8]) [0,1,1,1,1,3,1,1,3] J J J ?_
          refine CL (Ztb typK [9] _ _ _ _ _ (Xra Zja Wmb _) E.g0.row Od) ?_
          rintro v61 w61 ⟨hA61,g61⟩
          have hq61:=hA61
          obtain ⟨f61,fs61,cs61,rfl,hgo61,hf61⟩:=hq61
          refine ⟨fun _=>g61,?_⟩
          have g:=g.trans g61
          have gm8:=gm8.trans (g61)
          have gm10:=gm10.trans (g61)
          have gm59:=gm59.trans (g61)
          replace E:=E.grow g61
          have gm61:=G.refl w61
          refine Zs ((g61).only _) ?_
          refine Zm 6 J J ?_
          refine Zl (L':=[7,8]) [0,1,1,1,1,3,1,1,3] J J J ?_
          refine CN fun _ _ N63 l63 g E=>?_
          have l63_gm8:=N63.ge gm8
          have l63_gm10:=N63.ge gm10
          have l63_gm59:=N63.ge gm59
          have l63_gm61:=N63.ge gm61
          have gm8:=gm8.trans (N63.g)
          have gm59:=gm59.trans (N63.g)
          have gm61:=gm61.trans (N63.g)
          refine Zs ((N63.g).only _) ?_
          refine Zm 7 J J ?_
          refine Zl (L':=[8]) [0,1,1,1,1,3,1,1,3] J J J ?_
          refine CP (Yka t _ _ D [memK [5],fun k=>typK k || memK [9] k,memK [10]] _ _ _ _ _ (hk.grow g) J E.g0.row (fun i h=>by match i,h with|0,_=>exact hA59.grow gm59|1,_=>exact hA61.grow gm61|2,_=>exact hA8.grow gm8) hc) (fun w64 g64=>?_)
          have g:=g.trans g64
          replace E:=E.grow g64
          refine Zs ((g64).only _) ?_
          refine Zr 8 J J (fun _=>Ji (Zc J)) (TK [2] (Jl (kq (We (Vz J J ?_)))))
          refine ⟨Jzg ?_,g⟩
          unfold formB;simp only [anyK,h1,h5,h6,h7,Zfh,Zeh] <;> rfl
      · refine Zl (L':=[1,2,4,6,7,8]) [0,1,1,1,1,3,1,1,3] rfl rfl rfl ?_
        refine CN fun _ _ N60 _ g E=>?_
        have l60_gm8:=N60.ge gm8
        have l60_gm10:=N60.ge gm10
        have gm8:=gm8.trans (N60.g)
        have gm10:=gm10.trans (N60.g)
        refine Zs ((N60.g).only _) ?_
        refine Zm 1 J J ?_
        refine Zl (L':=[2,4,6,7,8]) [0,1,1,1,1,3,1,1,3] J J J ?_
        refine CN fun _ _ N58 _ g E=>?_
        have l58_gm8:=N58.ge gm8
        have l58_gm10:=N58.ge gm10
        have gm8:=gm8.trans (N58.g)
        have gm10:=gm10.trans (N58.g)
        refine Zs ((N58.g).only _) ?_
        refine Zm 2 J J ?_
        refine Zl (L':=[4,6,7,8]) [0,1,1,1,1,3,1,1,3] J J J ?_
        refine CL (Yfa [5] _ _ _ _ E.g0.row Od) ?_
        rintro v59 w59 ⟨hA59,g59⟩
        have hq59:=hA59
        obtain ⟨f59,fs59,cs59,rfl,hgo59,hf59⟩:=hq59
        refine ⟨fun _=>g59,?_⟩
        have g:=g.trans g59
        have gm8:=gm8.trans (g59)
        have gm10:=gm10.trans (g59)
        replace E:=E.grow g59
        have gm59:=G.refl w59
        refine Zs ((g59).only _) ?_
        refine Zm 4 J J ?_
        refine Zl (L':=[6,7,8]) [0,1,1,1,1,3,1,1,3] J J J ?_
        refine CL (Ztb typK [9] _ _ _ _ _ (Xra Zja Wmb _) E.g1.row Od) ?_
        rintro v61 w61 ⟨hA61,g61⟩
        have hq61:=hA61
        obtain ⟨f61,fs61,cs61,rfl,hgo61,hf61⟩:=hq61
        refine ⟨fun _=>g61,?_⟩
        have g:=g.trans g61
        have gm8:=gm8.trans (g61)
        have gm10:=gm10.trans (g61)
        have gm59:=gm59.trans (g61)
        replace E:=E.grow g61
        have gm61:=G.refl w61
        refine Zs ((g61).only _) ?_
        refine Zm 6 J J ?_
        refine Zl (L':=[7,8]) [0,1,1,1,1,3,1,1,3] J J J ?_
        refine CN fun _ _ N63 _ g E=>?_
        have l63_gm8:=N63.ge gm8
        have l63_gm10:=N63.ge gm10
        have l63_gm59:=N63.ge gm59
        have l63_gm61:=N63.ge gm61
        have gm8:=gm8.trans (N63.g)
        have gm59:=gm59.trans (N63.g)
        have gm61:=gm61.trans (N63.g)
        refine Zs ((N63.g).only _) ?_
        refine Zm 7 J J ?_
        refine Zl (L':=[8]) [0,1,1,1,1,3,1,1,3] J J J ?_
        refine CP (Yka t _ _ D [memK [5],fun k=>typK k || memK [9] k,memK [10]] _ _ _ _ _ (hk.grow g) J E.g0.row (fun i h=>by match i,h with|0,_=>exact hA59.grow gm59|1,_=>exact hA61.grow gm61|2,_=>exact hA8.grow gm8) hc) (fun w64 g64=>?_)
        have g:=g.trans g64
        replace E:=E.grow g64
        refine Zs ((g64).only _) ?_
        refine Zr 8 J J (fun _=>Ji (Zc J)) (TK [2] (Jl (kq (We (Vz J J ?_)))))
        refine ⟨Jzg ?_,g⟩
        unfold formB;simp only [anyK,h1,h5,h6,h7,Zfh,Zeh] <;> rfl
    refine IF (fun h8=>?_) fun h8=>?_
    · (try simp only [bsimp] at h8)
      refine AU ?_
      refine Xg [0,1,1,1,1,3] [true,true,true,true,true,true] [0,0,2,6,15,31] mix KR ?_
      have g:=gdr g
      have gm8:=gm8.trans (G.drew _)
      have gm10:=gm10.trans (G.drew _)
      replace E:=E.dr
      refine CN fun _ _ ga _ g E=>?_
      have l68_gm8:=ga.ge gm8
      have l68_gm10:=ga.ge gm10
      have gm8:=gm8.trans (ga.g)
      have gm10:=gm10.trans (ga.g)
      refine CL (Ztb expK [9] _ _ _ _ _ (Xra Wo Qj _) E.g0.row Od) ?_
      rintro v69 w69 ⟨hA69,g69⟩
      have hq69:=hA69
      obtain ⟨f69,fs69,cs69,rfl,hgo69,hf69⟩:=hq69
      refine ⟨fun _=>g69,?_⟩
      have g:=g.trans g69
      have gm8:=gm8.trans (g69)
      have gm10:=gm10.trans (g69)
      replace E:=E.grow g69
      have gm69:=G.refl w69
      refine CN fun _ _ ga _ g E=>?_
      have l70_gm8:=ga.ge gm8
      have l70_gm10:=ga.ge gm10
      have l70_gm69:=ga.ge gm69
      have gm69:=gm69.trans (ga.g)
      refine CP (Yka t _ _ D [typK,fun k=>expK k || memK [9] k] _ _ _ _ _ (hk.grow g) J E.g0.row (fun i h=>by match i,h with|0,_=>exact Xra Zja Wmb _|1,_=>exact hA69.grow gm69) hc) (fun w71 g71=>?_)
      have g:=g.trans g71
      replace E:=E.grow g71
      refine RTN ?_
      refine ⟨Jzg ?_,g⟩
      unfold formB;simp only [anyK,h1,h5,h6,h7,h8,Zfh,Zeh] <;> rfl
    refine IF (fun h9=>?_) fun h9=>?_
    · (try simp only [bsimp] at h9)
      refine AU ?_
      refine CP (Wnb t _ _ D stK _ _ (hk.grow g) (Xra Ubb Ysd _) hc) (fun w75 g75=>?_)
      have g:=g.trans g75
      replace E:=E.grow g75
      refine RTN ?_
      refine ⟨Jzg ?_,g⟩
      unfold formB;simp only [anyK,h1,h5,h6,h7,h8,h9,Zfh,Zeh] <;> rfl
    refine AU ?_
    refine' OR [1,2,3,12] (fun hb10=>?y10) (kq ?n10)
    case y10 =>
     refine AU ?_
     refine' OR [1,2,3,12] (fun hb11=>?y11) knr
     case y11 =>
      refine AU ?_
      refine' OR [1,2,3,12] (fun hb12=>?y12) knr
      case y12 =>
       refine AU ?_
       refine' OR [1,2,3,12] (fun hb13=>?y13) knr
       case y13 =>
        refine AU ?_
        refine' OR [1,2,3,12] (fun hb14=>?y14) knr
        case y14 =>
         refine AU ?_
         refine' OR [1,2,3,12] (fun hb15=>?y15) knr
         case y15 =>
          refine AU ?_
          refine' OR [1,2,3,12] (fun hb16=>?y16) knr
          case y16 =>
           refine AU ?_
           refine' OR [1,2,3,12] (fun hb17=>?y17) knr
           case y17 =>
            refine AU ?_
            refine SK [76,1,2,3,12] ?_
            exact Ze knr
    case n10 =>
     refine IF (fun h18=>?_) fun h18=>?_
     · (try simp only [bsimp] at h18)
       refine CN fun _ _ ga _ g E=>?_
       have l87_gm8:=ga.ge gm8
       have l87_gm10:=ga.ge gm10
       refine CP (Yka t _ _ D [expK] _ _ _ _ _ (hk.grow g) J E.g0.row (fun i h=>by match i,h with|0,_=>exact Xra Wo Qj _) hc) (fun w88 g88=>?_)
       have g:=g.trans g88
       replace E:=E.grow g88
       refine RTN ?_
       refine ⟨Jzg ?_,g⟩
       unfold formB;simp only [anyK,h1,h5,h6,h7,h8,h9,h18,Zfh,Zeh] <;> rfl
     refine AU ?_
     refine' OR [1,2,3,12] (fun hb19=>?y19) (kq ?n19)
     case y19 =>
      refine AU ?_
      refine' OR [1,2,3,12] (fun hb20=>?y20) knr
      case y20 =>
       refine AU ?_
       refine' OR [1,2,3,12] (fun hb21=>?y21) knr
       case y21 =>
        refine AU ?_
        refine SK [89,1,2,3,12] ?_
        exact Ze knr
     case n19 =>
      refine IF (fun h22=>?_) fun h22=>?_
      · (try simp only [bsimp] at h22)
        refine CN fun _ _ ga _ g E=>?_
        have l95_gm8:=ga.ge gm8
        have l95_gm10:=ga.ge gm10
        refine CP (Yka t _ _ D [expK,expK] _ _ _ _ _ (hk.grow g) J E.g0.row (fun i h=>by match i,h with|0,_=>exact Xra Wo Qj _|1,_=>exact Xra Wo Qj _) hc) (fun w96 g96=>?_)
        have g:=g.trans g96
        replace E:=E.grow g96
        refine RTN ?_
        refine ⟨Jzg ?_,g⟩
        unfold formB;simp only [anyK,h1,h5,h6,h7,h8,h9,h18,h22,Zfh,Zeh] <;> rfl
      refine IF (fun h23=>?_) fun h23=>?_
      · (try simp only [bsimp] at h23)
        refine AU ?_
        refine Xg [0,1,1,1,1,3] [true,true,true,true,true,true] [0,0,2,6,15,31] mix KR ?_
        have g:=gdr g
        have gm8:=gm8.trans (G.drew _)
        have gm10:=gm10.trans (G.drew _)
        replace E:=E.dr
        refine CN fun _ _ ga _ g E=>?_
        have l100_gm8:=ga.ge gm8
        have l100_gm10:=ga.ge gm10
        have gm8:=gm8.trans (ga.g)
        have gm10:=gm10.trans (ga.g)
        refine CL (Yfa [30,33] _ _ _ _ E.g0.row Od) ?_
        rintro v101 w101 ⟨hA101,g101⟩
        have hq101:=hA101
        obtain ⟨f101,fs101,cs101,rfl,hgo101,hf101⟩:=hq101
        refine ⟨fun _=>g101,?_⟩
        have g:=g.trans g101
        have gm8:=gm8.trans (g101)
        have gm10:=gm10.trans (g101)
        replace E:=E.grow g101
        have gm101:=G.refl w101
        refine CN fun _ _ ga _ g E=>?_
        have l102_gm8:=ga.ge gm8
        have l102_gm10:=ga.ge gm10
        have l102_gm101:=ga.ge gm101
        have gm101:=gm101.trans (ga.g)
        refine CP (Yka t _ _ D [memK [30,33]] _ _ _ _ _ (hk.grow g) J E.g0.row (fun i h=>by match i,h with|0,_=>exact hA101.grow gm101) hc) (fun w103 g103=>?_)
        have g:=g.trans g103
        replace E:=E.grow g103
        refine RTN ?_
        refine ⟨Jzg ?_,g⟩
        unfold formB;simp only [anyK,h1,h5,h6,h7,h8,h9,h18,h22,h23,Zfh,Zeh] <;> rfl
      refine AU ?_
      refine' OR [1,2,3,12] (fun hb24=>?y24) (kq ?n24)
      case y24 =>
       refine AU ?_
       refine SK [104,1,2,3,12] ?_
       exact Ze knr
      case n24 =>
       refine IF (fun h25=>?_) fun h25=>?_
       · (try simp only [bsimp] at h25)
         refine AU ?_
         refine Xg [0,1,1,1,1,3] [true,true,true,true,true,true] [0,0,2,6,15,31] mix KR ?_
         have g:=gdr g
         have gm8:=gm8.trans (G.drew _)
         have gm10:=gm10.trans (G.drew _)
         replace E:=E.dr
         refine CN fun _ _ ga _ g E=>?_
         have l108_gm8:=ga.ge gm8
         have l108_gm10:=ga.ge gm10
         have gm8:=gm8.trans (ga.g)
         have gm10:=gm10.trans (ga.g)
         refine CL (Yfa [30] _ _ _ _ E.g0.row Od) ?_
         rintro v109 w109 ⟨hA109,g109⟩
         have hq109:=hA109
         obtain ⟨f109,fs109,cs109,rfl,hgo109,hf109⟩:=hq109
         refine ⟨fun _=>g109,?_⟩
         have g:=g.trans g109
         have gm8:=gm8.trans (g109)
         have gm10:=gm10.trans (g109)
         replace E:=E.grow g109
         have gm109:=G.refl w109
         refine CN fun _ _ ga _ g E=>?_
         have l110_gm8:=ga.ge gm8
         have l110_gm10:=ga.ge gm10
         have l110_gm109:=ga.ge gm109
         have gm109:=gm109.trans (ga.g)
         refine CP (Yka t _ _ D [memK [30]] _ _ _ _ _ (hk.grow g) J E.g0.row (fun i h=>by match i,h with|0,_=>exact hA109.grow gm109) hc) (fun w111 g111=>?_)
         have g:=g.trans g111
         replace E:=E.grow g111
         refine RTN ?_
         refine ⟨Jzg ?_,g⟩
         unfold formB;simp only [anyK,h1,h5,h6,h7,h8,h9,h18,h22,h23,h25,Zfh,Zeh] <;> rfl
       refine IF (fun h26=>?_) fun h26=>?_
       · (try simp only [bsimp] at h26)
         refine AU ?_
         refine Xg [0,3,1,1,1,1,3] [true,true,true,true,true,true,true] [0,0,0,4,14,31,63] mix KR ?_
         have g:=gdr g
         have gm8:=gm8.trans (G.drew _)
         have gm10:=gm10.trans (G.drew _)
         replace E:=E.dr
         refine CN fun _ _ ga _ g E=>?_
         have l116_gm8:=ga.ge gm8
         have l116_gm10:=ga.ge gm10
         have gm8:=gm8.trans (ga.g)
         have gm10:=gm10.trans (ga.g)
         refine CL (Yfa [10,18,9] _ _ _ _ E.g0.row Od) ?_
         rintro v117 w117 ⟨hA117,g117⟩
         have hq117:=hA117
         obtain ⟨f117,fs117,cs117,rfl,hgo117,hf117⟩:=hq117
         refine ⟨fun _=>g117,?_⟩
         have g:=g.trans g117
         have gm8:=gm8.trans (g117)
         have gm10:=gm10.trans (g117)
         replace E:=E.grow g117
         have gm117:=G.refl w117
         refine CN fun _ _ ga _ g E=>?_
         have l118_gm8:=ga.ge gm8
         have l118_gm10:=ga.ge gm10
         have l118_gm117:=ga.ge gm117
         have gm8:=gm8.trans (ga.g)
         have gm117:=gm117.trans (ga.g)
         refine CP (Yka t _ _ D [expK,memK [10],memK [10,18,9]] _ _ _ _ _ (hk.grow g) J E.g0.row (fun i h=>by match i,h with|0,_=>exact Xra Wo Qj _|1,_=>exact hA8.grow gm8|2,_=>exact hA117.grow gm117) hc) (fun w119 g119=>?_)
         have g:=g.trans g119
         replace E:=E.grow g119
         refine RTN ?_
         refine ⟨Jzg ?_,g⟩
         unfold formB;simp only [anyK,h1,h5,h6,h7,h8,h9,h18,h22,h23,h25,h26,Zfh,Zeh] <;> rfl
       refine IF (fun h27=>?_) fun h27=>?_
       · (try simp only [bsimp] at h27)
         refine AU ?_
         refine Xg [0,1,1,3,1,1,3] [true,true,true,false,true,true,true] [0,0,2,0,14,31,63] mix KR ?_
         have g:=gdr g
         have gm8:=gm8.trans (G.drew _)
         have gm10:=gm10.trans (G.drew _)
         replace E:=E.dr
         refine CN fun _ _ ga _ g E=>?_
         have l123_gm8:=ga.ge gm8
         have l123_gm10:=ga.ge gm10
         have gm8:=gm8.trans (ga.g)
         have gm10:=gm10.trans (ga.g)
         refine CL (Ztb expK [9] _ _ _ _ _ (Xra Wo Qj _) E.g0.row Od) ?_
         rintro v124 w124 ⟨hA124,g124⟩
         have hq124:=hA124
         obtain ⟨f124,fs124,cs124,rfl,hgo124,hf124⟩:=hq124
         refine ⟨fun _=>g124,?_⟩
         have g:=g.trans g124
         have gm8:=gm8.trans (g124)
         have gm10:=gm10.trans (g124)
         replace E:=E.grow g124
         have gm124:=G.refl w124
         refine CN fun _ _ ga _ g E=>?_
         have l126_gm8:=ga.ge gm8
         have l126_gm10:=ga.ge gm10
         have l126_gm124:=ga.ge gm124
         have gm8:=gm8.trans (ga.g)
         have gm124:=gm124.trans (ga.g)
         refine CP (Yka t _ _ D [fun k=>expK k || memK [9] k,memK [10]] _ _ _ _ _ (hk.grow g) J E.g0.row (fun i h=>by match i,h with|0,_=>exact hA124.grow gm124|1,_=>exact hA8.grow gm8) hc) (fun w127 g127=>?_)
         have g:=g.trans g127
         replace E:=E.grow g127
         refine RTN ?_
         refine ⟨Jzg ?_,g⟩
         unfold formB;simp only [anyK,h1,h5,h6,h7,h8,h9,h18,h22,h23,h25,h26,h27,Zfh,Zeh] <;> rfl
       refine IF (fun h28=>?_) fun h28=>?_
       · (try simp only [bsimp] at h28)
         refine AU ?_
         refine Vzc [_] J J J Jh Zob (Uq Wz (Up)) J J ?_
         intro b136 w136 g136 hB136
         have g:=g.trans g136
         replace E:=E.grow g136
         refine CG (fun hc=>Yka t _ _ D [expK] _ _ _ _ _ (hk.grow g) J (hB136 hc).row (fun i h=>by match i,h with|0,_=>exact Xra Wo Qj _) hc0) (fun w137 g137=>?_)
         have g:=g.trans g137
         replace E:=E.grow g137
         refine RTN ?_
         refine ⟨Jzg ?_,g⟩
         unfold formB;simp only [anyK,h1,h5,h6,h7,h8,h9,h18,h22,h23,h25,h26,h27,h28,Zfh,Zeh] <;> rfl
       refine IF (fun h29=>?_) fun h29=>?_
       · (try simp only [bsimp] at h29)
         refine AU ?_
         refine Xg [0,1,1,1,3] [true,true,true,true,true] [0,0,2,7,15] mix KR ?_
         have g:=gdr g
         have gm8:=gm8.trans (G.drew _)
         have gm10:=gm10.trans (G.drew _)
         replace E:=E.dr
         refine CN fun _ _ ga _ g E=>?_
         have l142_gm8:=ga.ge gm8
         have l142_gm10:=ga.ge gm10
         refine CL (Yfa [23] _ _ _ _ E.g0.row Od) ?_
         rintro v143 w143 ⟨hA143,g143⟩
         have hq143:=hA143
         obtain ⟨f143,fs143,cs143,rfl,hgo143,hf143⟩:=hq143
         refine ⟨fun _=>g143,?_⟩
         have g:=g.trans g143
         replace E:=E.grow g143
         have gm143:=G.refl w143
         refine CP (Wnb t _ _ D (memK [23]) _ _ (hk.grow g) (hA143.grow gm143) hc) (fun w144 g144=>?_)
         have g:=g.trans g144
         replace E:=E.grow g144
         refine RTN ?_
         refine ⟨Jzg ?_,g⟩
         unfold formB;simp only [anyK,h1,h5,h6,h7,h8,h9,h18,h22,h23,h25,h26,h27,h28,h29,Zfh,Zeh] <;> rfl
       refine Zk (Zn (Yjb J J (Xf J (Ze (kq (Um J (fun h30=>?_) (fun h30=>?_)))))))
       · (try simp only [bsimp] at h30)
         refine Zk (Zn (?_))
         obtain ⟨p0,c0,h0x⟩:=Xie hk 0
         obtain ⟨p1,c1,h1x⟩:=Xie hk 1
         refine Xa Zg J (Xn Zi J (E.g2.at_ J) (Xva Zd J (Yjb J J (Zu J (Zv J J J (fun _=>Zh Zg (Zc J)) (Wb J J J (Zt Zi (Yc J id) (fun _=>E.g2.at_ J)) (Zv J J J (fun _=>Xr Zd (Yc J id) Xv (fun hc=>by have:=Zch hc.2;omega) (fun hc=>(h0x (by have:=Zch hc.2;omega)).1)) (Wb J J J (Zo Zf (Yc J id) J (fun hc=>(h0x (by have:=Zch hc.2;omega)).2.1.grow g)) (Zha J J J (fun _=>(Zy Zgb Wz (Yn (Yc J id) (Xw)) J)) (fun hc=>Jff (Za t 0) _ _ D _ ((h0x (by have:=Zch hc.2;omega)).2.2.grow g) (hcc 0)) (fun w156 g156=>?_))))))))))
         have g:=g.trans g156
         have gm8:=gm8.trans (g156)
         replace E:=E.grow g156
         refine Zz J (fun _=>Wn (Zc J) (Yc J id)) (Zu J (Zv J J J (fun _=>Zw (Zc J)) (Zv J J J (fun _=>Zh Zg (Zc J)) (Wb J J J (Zt Zi (Yc J id) (fun _=>E.g2.at_ J)) (Zv J J J (fun _=>Xr Zd (Yc J id) Xv (fun hc=>by have:=Zch (Aja.1 hc.2).1;omega) (fun hc=>(h1x (by have:=Zch (Aja.1 hc.2).1;omega)).1)) (Zv J J J (fun _=>Zh Xd (Yc J id)) (Wb J J J (Zt Yf (Yc J id) (fun hc=>((h1x (by have:=Zch (Aja.1 hc.2).1;omega)).2.1.grow g) 0 _ J)) (Zha J J J (fun _=>(Zy hgo8 (Yc J id) (Yn (Yc J id) (Xw)) J)) (fun hc=>hf8 _ _ gm8) (fun w165 g165=>?_)))))))))
         have g:=g.trans g165
         replace E:=E.grow g165
         refine RTN ?_
         refine ⟨Jzg ?_,g⟩
         unfold formB;simp only [anyK,h1,h5,h6,h7,h8,h9,h18,h22,h23,h25,h26,h27,h28,h29,h30,Zfh,Zeh] <;> rfl
       refine IF (fun h31=>?_) fun h31=>?_
       · (try simp only [bsimp] at h31)
         refine AU ?_
         refine Zha J J J (fun _=>(Zy Wdc Wz (Yn (Yc J id) (Yn Xv (Yn Wz (Xw)))) J)) (fun hc=>Wnb t _ _ D expK _ _ (hk.grow g) (Xra Wo Qj _) hc0) (fun w175 g175=>?_)
         have g:=g.trans g175
         replace E:=E.grow g175
         refine RTN ?_
         refine ⟨Jzg ?_,g⟩
         unfold formB;simp only [anyK,h1,h5,h6,h7,h8,h9,h18,h22,h23,h25,h26,h27,h28,h29,h30,h31,Zfh,Zeh] <;> rfl
       refine IF (fun h32=>?_) fun h32=>?_
       · (try simp only [bsimp] at h32)
         refine RTN ?_
         refine ⟨Jzg ?_,g⟩
         unfold formB;simp only [anyK,h1,h5,h6,h7,h8,h9,h18,h22,h23,h25,h26,h27,h28,h29,h30,h31,h32,Zfh,Zeh] <;> rfl
       refine IF (fun h33=>?_) fun h33=>?_
       · (try simp only [bsimp] at h33)
         refine RTN ?_
         refine ⟨Jzg ?_,g⟩
         unfold formB;simp only [anyK,h1,h5,h6,h7,h8,h9,h18,h22,h23,h25,h26,h27,h28,h29,h30,h31,h32,h33,Zfh,Zeh] <;> rfl
       refine AU ?_
       refine' OR [1,2,3,12] (fun hb34=>?y34) (kq ?n34)
       case y34 =>
        refine AU ?_
        refine' OR [1,2,3,12] (fun hb35=>?y35) knr
        case y35 =>
         refine AU ?_
         refine' OR [1,2,3,12] (fun hb36=>?y36) knr
         case y36 =>
          refine AU ?_
          refine' OR [1,2,3,12] (fun hb37=>?y37) knr
          case y37 =>
           refine AU ?_
           refine' OR [1,2,3,12] (fun hb38=>?y38) knr
           case y38 =>
            refine AU ?_
            refine SK [204,1,2,3,12] ?_
            exact Ze knr
       case n34 =>
        refine IF (fun h39=>?_) fun h39=>?_
        · (try simp only [bsimp] at h39)
          refine RTN ?_
          refine ⟨Jzg ?_,g⟩
          unfold formB;simp only [anyK,h1,h5,h6,h7,h8,h9,h18,h22,h23,h25,h26,h27,h28,h29,h30,h31,h32,h33,h39,Zfh,Zeh] <;> rfl
        refine IF (fun h40=>?_) fun h40=>?_
        · (try simp only [bsimp] at h40)
          refine CN fun _ _ ga _ g E=>?_
          have l219_gm8:=ga.ge gm8
          have l219_gm10:=ga.ge gm10
          have gm8:=gm8.trans (ga.g)
          refine CP (Yka t _ _ D [memK [10]] _ _ _ _ _ (hk.grow g) J E.g0.row (fun i h=>by match i,h with|0,_=>exact hA8.grow gm8) hc) (fun w220 g220=>?_)
          have g:=g.trans g220
          replace E:=E.grow g220
          refine RTN ?_
          refine ⟨Jzg ?_,g⟩
          unfold formB;simp only [anyK,h1,h5,h6,h7,h8,h9,h18,h22,h23,h25,h26,h27,h28,h29,h30,h31,h32,h33,h39,h40,Zfh,Zeh] <;> rfl
        refine RTN ?_
        refine ⟨Jzg ?_,g⟩
        unfold formB;simp only [anyK,h1,h5,h6,h7,h8,h9,h18,h22,h23,h25,h26,h27,h28,h29,h30,h31,h32,h33,h39,h40,Zfh,Zeh] <;> rfl
def locB(t:Nd):Bool:=textB' t&&formB t
def permF(t:Nd):Bool:=para (fun t l=>locB t&&l.all id) t
theorem Uo(t:Nd):permF t=(locB t&&t.kids.all permF):=by
 rw [permF,Zca,Bla];rfl
def maxL(l:List Nat):Nat:=l.foldl max 0
def depthN(t:Nd):Nat:=para (fun _ l=>maxL l+1) t
theorem Uya(t:Nd):depthN t=maxL (t.kids.map depthN)+1:=Zca _ t
theorem Ytd(l:List Nat)(a d:Nat):l.foldl max a≤d↔a≤d∧∀ x∈l,x≤d:=by
 induction l generalizing a with
 | nil=>simp
 | cons x xs ih=>simp only [List.foldl_cons,ih,List.forall_mem_cons,Nat.max_le,and_assoc]
theorem Xje(l:List Nat)(d:Nat):maxL l≤d↔∀ x∈l,x≤d:=by
 rw [maxL,Ytd];exact ⟨fun h=>h.2,fun h=>⟨Aea _,h⟩⟩
theorem Qae(t:Nd)(d:Nat):depthN t≤d↔0<d∧∀ k∈t.kids,depthN k≤d-1:=by
 rw [Uya];constructor;intro h;refine ⟨O,fun k hk=>?_⟩;have:=(Xje (t.kids.map depthN) (d-1)).1 O;exact this _ (List.mem_map_of_mem hk);rintro ⟨h0,h⟩;have:=(Xje (t.kids.map depthN) (d-1)).2 (fun x hx=>by obtain ⟨k,hk,rfl⟩:=List.mem_map.1 hx;exact h k hk);omega
theorem Jxd(t:Nd):1≤depthN t:=by rw [Uya];omega
def permB(d:Nat)(t:Nd):Bool:=permF t&&decide (depthN t≤d)
theorem Jyd(t:Nd):permB 0 t=false:=by
 have:=Jxd t;rw [permB,Jxg O,Bool.and_false]
theorem Vod{d:Nat}(h:0<d)(t:Nd):permB d t=((textB' t&&formB t)&&t.kids.all (permB (d-1))):=by
 rw [Aza,permB,Uo,locB];simp only [Aaa,Zah,Qae t d,Aia,permB];constructor;rintro ⟨⟨h1,h2⟩,_,h3⟩;exact ⟨h1,fun k hk=>⟨h2 k hk,h3 k hk⟩⟩;rintro ⟨h1,h2⟩;exact ⟨⟨h1,fun k hk=>(h2 k hk).1⟩,h,fun k hk=>(h2 k hk).2⟩
theorem Qbe{t:Nd}{n:Nat}(h:count t≤n)(i:Nat):(Za t i).kids.length≤n:=by
 by_cases hi:i<t.kids.length;rw [Yj hi];have:=Zrb (Afa hi);have:=Wu t.kids[i];omega;have:Za t i=nd0:=by simp only [Za,Aga];rw [Aka O];rfl
 rw [this];exact Aea _
theorem Yud:∀ (t:Nd) (v:Ga) (D:Nat→Prop) (d:Nat) (w:Aa),Laid w→10≤w.heap.size→Kd w D t.kids v→count t≤1000000→d≤1000000→Ret PP 50 #[ndV t v,.int .i64 (d:Int)] w fun r w'=>r = .bool (permB d t)∧G w w':=by
 refine Nd.ind fun t ih v D d w hL hb3 hk hcn hd=>?_;have hk0:=hk;obtain ⟨p,c,rfl,hcap,hks⟩:=hk;have g:=G.refl w;have hlen:=Wu t;refine WK 32 [0,1] Tryz.func50 ?_;refine BM fun _ _ _ _ g E=>?_;refine AU ?_;refine CG (fun hc=>Yef t _ _ _ (hL.grow g) (by have:=g.size;omega)) (fun w11 g11=>?_);have g:=g.trans g11;replace E:=E.grow g11;refine AU ?_;refine CG (fun hc=>Jgf t _ _ D _ (hk0.grow g) O (fun i=>Qbe hcn i)) (fun w16 g16=>?_);have g:=g.trans g16;replace E:=E.grow g16;refine IF (fun h1=>?_) fun h1=>?_
 have hN:permB d t=false:=by
  rw [Aba,Aba,Zah,Bool.not_eq_true',Bool.not_eq_true'] at h1;by_cases h0:d=0;rw [h0];exact Jyd t;rw [Vod O];rcases h1 with (h1|h1)|h1;omega;rw [h1];rfl;rw [h1,Bool.and_false];rfl
 refine RTN ?_;rw [hN];exact ⟨rfl,g⟩
 have hpos:0<d:=by
  rcases Nat.eq_zero_or_pos d with h0|h0;rw [h0] at h1;exact absurd h1 Os;exact h0
 have hloc:(textB' t&&formB t)=true:=by
  rw [Baa,Baa,Bool.not_eq_false',Bool.not_eq_false'] at h1;rw [h1.1.2,h1.2];rfl
 have hN:=Vod hpos t;rw [hloc,Bma] at hN;refine Yu (kq (Zk (Zk (Zn (Xa Zg J (Xn Zi J (E.g0.at_ J) (Xva Zd J (Zu J (Ze (kq (Yw (Qk (fun (i:Nat) u1=>(i≤t.kids.length∧∀ j,(h:j<t.kids.length)→j<i→permB (d-1) t.kids[j]=true)∧G w16 u1) [(1,True,_),(20,True,_),(21,True,_)] (fun (i:Nat)=>[(22,True,.int .i64 i)]) (fun (i:Nat)=>t.kids.length-i) (0) ⟨⟨Aea _,fun j _ hj=>absurd hj (Bka j)⟩,G.refl _⟩ (Zb J (Zb J (Zb J (Zb J (Zq _))))) ?_))))))))))));rintro i u1 ⟨hI1,gl1⟩;have g:=g.trans gl1;replace E:=E.grow gl1;refine Zk (Zn (Ykb J J (Ze (kq (Zk (Um J (fun h2=>?_) (fun h2=>?_)))))));replace h2:i<t.kids.length:=by simp only [Zah] at h2;omega
 obtain ⟨b,o,rfl,hD,xs,hR,hX⟩:=hks O;obtain ⟨p',c',hcell,hkid⟩:=Uyb hR hX h2;have hck:=Zpa h2;refine Yu (kq (Zk (Yw (Zk (Zn (Jhb Zd J J O (Va Zf J J (hcell.grow g) (AN fun _ _ ga _ g E=>?_))))))));have l6_gl1:=ga.ge gl1;have gl1:=gl1.trans (ga.g);refine AS fun _ ga _ g E=>?_;first|replace gl1:=Yq gl1 ga O|clear gl1|skip
 refine Ze (kq (Zk (Zn (Va Zf J J E.g0.row (Zu J (Zz J (fun _=>Qnf (r:=((d-1:Nat):Int)) (Zc J) Xv (fun hc=>(by rw [Jed ⟨O,O⟩];omega))) (Uv J (Zy Uab Wz (aqc J (aqc J aq0)) J) (ih _ (Afa h2) _ _ (d-1) _ (hL.grow g) (by have:=g.size;omega) (hkid.grow g) O O) (fun w29 g29=>?_))))))));have g:=g.trans g29;have gl1:=gl1.trans (g29);replace E:=E.grow g29;refine IF (fun h3=>?_) fun h3=>?_;(try simp only [bsimp] at h3);refine RTN ?_;refine ⟨Jzg ?_,g⟩;rw [eq_comm,hN,List.all_eq_false];exact ⟨_,Afa h2,by simpa using h3⟩;refine AU ?_;refine SK [22,1,20,21] ?_;refine Ze (fun a ha=>?_);refine ⟨i+1,ha,⟨⟨h2,fun j h hj=>?_⟩,gl1⟩,O⟩;by_cases e:j=i;subst e;simpa using h3;exact hI1.2 j h O;refine RTN ?_;refine ⟨Jzg ?_,g⟩;rw [eq_comm,hN,Aia];intro x hx;obtain ⟨j,hj,rfl⟩:=Bya hx;exact hI1.2 j hj (by simp only [Zbh] at h2;omega)
def validB(t:Nd):Bool:=decide (t.kind=1)&&permB 50 t
theorem Qce(t:Nd)(v:Ga)(D:Nat→Prop)(w:Aa)(hL:Laid w)(hb3:10≤w.heap.size)(hk:Kd w D t.kids v)(hcn:count t≤1000000):Ret PP 27 #[ndV t v] w fun r w'=>r = .bool (validB t)∧G w w':=by
 have g:=G.refl w;refine WK 10 [0] Tryz.func27 ?_;refine BM fun _ _ _ _ g E=>?_;refine AU ?_;refine CG (fun hc=>Yud t _ D 50 _ (hL.grow g) (by have:=g.size;omega) (hk.grow g) hcn Od) (fun w8 g8=>?_);have g:=g.trans g8;replace E:=E.grow g8;refine RTN ?_;exact ⟨rfl,g⟩
def exprB(t:Nd):Bool:=expK t.kind&&permF t
def blockB(t:Nd):Bool:=decide (t.kind=10)&&permF t
def stmtB(t:Nd):Bool:=stK t.kind&&permF t
def ifB(t:Nd):Bool:=decide (t.kind=18)&&permF t
def varB(t:Nd):Bool:=decide (t.kind=6)&&permF t
def commF(t:Nd):Bool:=commB t&&permF t
def plainB(t:Nd):Bool:=decide (t.text=[])
def noneB(t:Nd):Bool:=(decide (t.kind=9)&&decide (t.text=[]))&&lenK t 0
def Qya(t:Nd)(k:Int):Bool:=decide (t.kind=k)&&exprB t
theorem Xke{α:Type}{l:List α}(h:l.length=2):∃ a b,l=[a,b]:=by
 match l,h with|[a,b],_=>exact ⟨a,b,rfl⟩
theorem Qde{α:Type}{l:List α}(h:l.length=3):∃ a b c,l=[a,b,c]:=by
 match l,h with|[a,b,c],_=>exact ⟨a,b,c,rfl⟩
theorem Yga(a k:Int):memK [a] k=decide (k=a):=by simp [memK]
theorem Wob{t:Nd}(n:Nat)(h:t.kids.length≠n):lenK t (n:Int)=false:=by rw [lenK,Jxg];omega
theorem Wqc{t:Nd}{qs:List (Int→Bool)}(h:t.kids.length≠qs.length):kidsB t qs=false:=by rw [kidsB,Jxg h,Bba]
theorem Yff{t:Nd}{f:Nd→Bool}:(lenK t 0&&t.kids.all f)=lenK t 0:=by
 by_cases h:t.kids.length=0;rw [Bza.1 h,List.all_nil,Bool.and_true];rw [show lenK t 0=false from Wob 0 h];rfl
theorem Jzd{t:Nd}{q:Int→Bool}:(kidsB t [q]&&t.kids.all permF)=(lenK t 1&&(q (Za t 0).kind&&permF (Za t 0))):=by
 by_cases h:t.kids.length=1;obtain ⟨a,ha⟩:=Caa.1 h;simp [lenK,kidsB,Za,ha,Bna];rw [show lenK t 1=false from Wob 1 h,Wqc h];rfl
theorem Yvd{t:Nd}{q q2:Int→Bool}:(kidsB t [q,q2]&&t.kids.all permF)=(lenK t 2&&((q (Za t 0).kind&&permF (Za t 0))&&(q2 (Za t 1).kind&&permF (Za t 1)))):=by
 by_cases h:t.kids.length=2;obtain ⟨a,b,ha⟩:=Xke h;simp [lenK,kidsB,Za,ha,Bna];ac_rfl;rw [show lenK t 2=false from Wob 2 h,Wqc h];rfl
theorem Ygf{t:Nd}{q q2 q3:Int→Bool}:(kidsB t [q,q2,q3]&&t.kids.all permF)=(lenK t 3&&(((q (Za t 0).kind&&permF (Za t 0))&&(q2 (Za t 1).kind&&permF (Za t 1)))&&(q3 (Za t 2).kind&&permF (Za t 2)))):=by
 by_cases h:t.kids.length=3;obtain ⟨a,b,c,ha⟩:=Qde h;simp [lenK,kidsB,Za,ha,Bna];ac_rfl;rw [show lenK t 3=false from Wob 3 h,Wqc h];rfl
theorem all_1{t:Nd}{f:Nd→Bool}:(lenK t 1&&t.kids.all f)=(lenK t 1&&f (Za t 0)):=by
 by_cases h:t.kids.length=1;obtain ⟨a,ha⟩:=Caa.1 h;simp [lenK,Za,ha];rw [show lenK t 1=false from Wob 1 h];rfl
theorem Xrg{t:Nd}{f:Nd→Bool}:(lenK t 2&&t.kids.all f)=(lenK t 2&&(f (Za t 0)&&f (Za t 1))):=by
 by_cases h:t.kids.length=2;obtain ⟨a,b,ha⟩:=Xke h;simp [lenK,Za,ha];rw [show lenK t 2=false from Wob 2 h];rfl
theorem Yvc{t:Nd}{q:Int→Bool}:(everyB t q&&t.kids.all permF)=t.kids.all fun k=>q k.kind&&permF k:=by
 rw [everyB,Aza];simp only [Aaa,Aia];exact ⟨fun h k hk=>⟨h.1 k hk,h.2 k hk⟩,fun h=>⟨fun k hk=>(h k hk).1,fun k hk=>(h k hk).2⟩⟩
theorem Jhf{t:Nd}:(everyB t expK&&t.kids.all permF)=t.kids.all exprB:=Yvc
def Yla(t:Nd):Bool :=
 bif decide (t.kind=24) then (plainB t&&lenK t 0)&&decide (0≤t.num)
 else bif decide (t.kind=25) then (plainB t&&lenK t 0)&&(decide (t.num=0) || decide (t.num=1))
 else bif decide (t.kind=26) then plainB t&&lenK t 0
 else bif anyK [27,34] t.kind then nameB t.text&&lenK t 0
 else bif decide (t.kind=28) then (nameB t.text&&lenK t 1)&&exprB (Za t 0)
 else bif decide (t.kind=29) then (plainB t&&lenK t 2)&&t.kids.all exprB
 else bif decide (t.kind=30) then (plainB t&&decide (1≤(t.kids.length:Int)))&&t.kids.all exprB
 else bif decide (t.kind=31) then ((decide (t.text=[45]) || decide (t.text=[33]))&&lenK t 1)&&exprB (Za t 0)
 else bif decide (t.kind=32) then (anyS Vra t.text&&lenK t 2)&&t.kids.all exprB
 else bif anyK [33,35,36,37] t.kind then (plainB t&&lenK t 1)&&exprB (Za t 0)
 else bif decide (t.kind=38) then (plainB t&&lenK t 1)&&blockB (Za t 0)
 else false
theorem fl0{t:Nd}{X:Bool}:(X&&lenK t 0)=((X&&lenK t 0)&&t.kids.all permF):=by rw [Aca,Yff]
theorem fl0'{t:Nd}{X Y:Bool}:((X&&lenK t 0)&&Y)=((X&&(lenK t 0&&Y))&&t.kids.all permF):=by
 rw [show ((X&&(lenK t 0&&Y))&&t.kids.all permF)=((X&&Y)&&(lenK t 0&&t.kids.all permF)) by simp only [Aca,Boa,Cba],Yff];simp only [Aca,Boa,Cba]
theorem fl1{t:Nd}{X:Bool}{q:Int→Bool}:((X&&lenK t 1)&&(q (Za t 0).kind&&permF (Za t 0)))=((X&&kidsB t [q])&&t.kids.all permF):=by rw [Aca,Aca,Jzd]
theorem fl2{t:Nd}{X:Bool}:((X&&lenK t 2)&&t.kids.all exprB)=((X&&kidsB t [expK,expK])&&t.kids.all permF):=by rw [Aca,Aca,Yvd,Xrg];rfl
theorem flv{t:Nd}{X Y Z:Bool}(h:Y=Z):((X&&Y)&&t.kids.all exprB)=((X&&(Z&&everyB t expK))&&t.kids.all permF):=by rw [Aca,Aca,Aca,Jhf,h]
theorem Qn(t:Nd):Yla t=exprB t:=by
 rw [exprB,Uo,locB];unfold Yla textB' formB;by_cases h:t.kind=24;rw [h];exact fl0';by_cases h1:t.kind=25;rw [h1];exact fl0';by_cases h2:t.kind=26;rw [h2];exact fl0;by_cases h3:t.kind=27;rw [h3];exact fl0;by_cases h4:t.kind=34;rw [h4];exact fl0;by_cases h5:t.kind=28;rw [h5];exact fl1;by_cases h6:t.kind=29;rw [h6];exact fl2;by_cases h7:t.kind=30;rw [h7];exact flv (by rw [decide_eq_decide];omega);by_cases h8:t.kind=31;rw [h8];exact fl1;by_cases h9:t.kind=32;rw [h9];exact fl2;by_cases h10:t.kind=33;rw [h10];exact fl1;by_cases h11:t.kind=35;rw [h11];exact fl1;by_cases h12:t.kind=36;rw [h12];exact fl1;by_cases h13:t.kind=37;rw [h13];exact fl1;by_cases h14:t.kind=38;rw [h14];refine Eq.trans ?_ (fl1 (X:=plainB t) (q:=memK [10]));rw [Yga];rfl;simp only [expK,anyK,Jxg h,Jxg h1,Jxg h2,Jxg h3,Jxg h4,Jxg h5,Jxg h6,Jxg h7,Jxg h8,Jxg h9,Jxg h10,Jxg h11,Jxg h12,Jxg h13,Jxg h14,Bca,Zeh,Bba]
def Uac(t:Nd):Bool:=bif !decide (t.kind=10) || !plainB t then false else t.kids.all stmtB
def Yhf(t:Nd):Bool:=bif (!decide (t.kind=18) || !plainB t) || !lenK t 3 then false else (exprB (Za t 0)&&blockB (Za t 1))&&((blockB (Za t 2) || ifB (Za t 2)) || noneB (Za t 2))
def refVar(t:Nd):Bool:=(((decide (t.kind=6)&&nameB t.text)&&lenK t 2)&&Xaa (Za t 0))&&(noneB (Za t 1) || exprB (Za t 1))
theorem Zae(a b p:Bool):((a&&p) || (b&&p))=((b || a)&&p):=by cases a <;> cases b <;> cases p <;> rfl
theorem Yif(a b c p:Bool):(((a&&p) || (b&&p)) || (c&&p))=(((a || b) || c)&&p):=by cases a <;> cases b <;> cases c <;> cases p <;> rfl
theorem Jif(a b c:Bool):(bif !a || !b then false else c)=((a&&b)&&c):=by cases a <;> cases b <;> rfl
theorem Jjf(a b c d:Bool):(bif (!a || !b) || !c then false else d)=(((a&&b)&&c)&&d):=by cases a <;> cases b <;> cases c <;> rfl
theorem Wpb(t:Nd):noneB t=(decide (t.kind=9)&&permF t):=by
 rw [noneB];by_cases h:t.kind=9;rw [Uo,locB,textB',formB,h,Aca];exact congrArg (true && ·) fl0;rw [Jxg h];rfl
theorem Ubc(t:Nd):Xaa t=(typK t.kind&&permF t):=by
 rw [Uo,locB];unfold Xaa textB' formB;by_cases h:t.kind=8;rw [h];exact fl0;by_cases h1:t.kind=7;rw [h1];exact fl0;rw [Jxg h,Jxg h1,typK,anyK,anyK,Jxg h,Jxg h1];rfl
theorem Vpd(t:Nd):Uac t=blockB t:=by
 rw [Uac,blockB,Jif];by_cases h:t.kind=10
 rw [Uo,locB,textB',formB,h,Aca];exact congrArg (true && ·) (by
  refine Eq.trans ?_ (Aca (plainB t) (everyB t stK) _).symm;rw [Yvc];rfl)
 rw [Jxg h];rfl
theorem Yjf(t:Nd):Yhf t=ifB t:=by
 rw [Yhf,Jjf,show ifB t=(decide (t.kind=18)&&permF t) from rfl];by_cases h:t.kind=18
 rw [Uo,locB,textB',formB,h,Aca,Aca];exact congrArg (true && ·) (by
  refine Eq.trans ?_ (Aca (plainB t) (kidsB t [expK,memK [10],memK [10,18,9]]) _).symm;rw [Ygf,Yga,Wpb,show memK [10,18,9] (Za t 2).kind=((decide ((Za t 2).kind=10) || decide ((Za t 2).kind=18)) || decide ((Za t 2).kind=9)) by simp [memK,Bool.or_assoc],← Yif];rfl)
 rw [Jxg h];rfl
theorem Qee(t:Nd):refVar t=varB t:=by
 rw [refVar,varB];by_cases h:t.kind=6
 rw [Uo,locB,textB',formB,h,Aca,Aca,Aca];exact congrArg (true && ·) (by
  refine Eq.trans ?_ (Aca (nameB t.text) (kidsB t [typK,fun k=>expK k || memK [9] k]) _).symm;rw [Yvd,Yga,Wpb,Ubc,show exprB (Za t 1)=(expK (Za t 1).kind&&permF (Za t 1)) from rfl,Zae])
 rw [Jxg h];rfl
def Zec(t:Nd):Bool :=
 bif anyK [16,9] t.kind then stmtB t || noneB t
 else bif decide (t.kind=13) then stmtB t&&decide ((Za t 0).kind=33)
 else bif decide (t.kind=12) then stmtB t&&decide ((Za t 1).kind=33)
 else bif decide (t.kind=11) then stmtB t&&decide ((Za t 0).kind=33)
 else false
theorem Jpc{t:Nd}(h:t.kind=13∨t.kind=11)(hp:permF t=true):t.kids.length=1:=by
 rw [Uo,locB,Aaa,Aaa] at hp;have hf:=hp.1.2;rcases h with h|h <;> rw [formB,h] at hf
 have:kidsB t [memK [30,33]]=true:=hf;rw [kidsB,Aaa,Zah] at this;exact this.1;have:kidsB t [expK]=true:=hf;rw [kidsB,Aaa,Zah] at this;exact this.1
theorem Qfe{t:Nd}(h:t.kind=12∨t.kind=6)(hp:permF t=true):t.kids.length=2:=by
 rw [Uo,locB,Aaa,Aaa] at hp;have hf:=hp.1.2;rcases h with h|h <;> rw [formB,h] at hf
 have:kidsB t [expK,expK]=true:=hf;rw [kidsB,Aaa,Zah] at this;exact this.1;have:kidsB t [typK,fun k=>expK k || memK [9] k]=true:=hf;rw [kidsB,Aaa,Zah] at this;exact this.1
theorem Ywd{a b c:Bool}(h:a=true→b=true):(a&&c)=((b&&c)&&a):=by revert h;cases a <;> cases b <;> cases c <;> simp
theorem Qsb(t:Nd):Zec t=commF t:=by
 rw [Zec,commF,Wpb,stmtB];unfold commB;by_cases h:t.kind=16;rw [h];exact (show (permF t || false)=_ from Bca _);by_cases h1:t.kind=9;rw [h1];rfl;by_cases h2:t.kind=13;have hl:permF t=true→decide (((t.kids.length:Int)-1)=0)=true:=fun hp=>by rw [Jpc (.inl h2) hp];rfl
 rw [h2];exact (show _=((decide (((t.kids.length:Int)-1)=0)&&decide ((Za t 0).kind=33))&&permF t) from Ywd hl);by_cases h3:t.kind=12;have hl:permF t=true→decide (((t.kids.length:Int)-1)=1)=true:=fun hp=>by rw [Qfe (.inl h3) hp];rfl
 rw [h3];exact (show _=((decide (((t.kids.length:Int)-1)=1)&&decide ((Za t 1).kind=33))&&permF t) from Ywd hl);by_cases h4:t.kind=11;have hl:permF t=true→decide (((t.kids.length:Int)-1)=0)=true:=fun hp=>by rw [Jpc (.inr h4) hp];rfl
 rw [h4];exact (show _=((decide (((t.kids.length:Int)-1)=0)&&decide ((Za t 0).kind=33))&&permF t) from Ywd hl);simp only [anyK,Jxg h,Jxg h1,Jxg h2,Jxg h3,Jxg h4,Bca,Zeh,Bba]
def Xga(t:Nd):Bool:=(((decide (t.kind=23)&&plainB t)&&lenK t 2)&&commF (Za t 0))&&blockB (Za t 1)
theorem Ykf(t:Nd):Xga t=(decide (t.kind=23)&&permF t):=by
 rw [Xga];by_cases h:t.kind=23;rw [Uo,locB,textB',formB,h];refine Eq.trans (b:=((plainB t&&((lenK t 2&&commB (Za t 0))&&memK [10] (Za t 1).kind))&&t.kids.all permF)) ?_ rfl;rw [Yga,show ((plainB t&&((lenK t 2&&commB (Za t 0))&&decide ((Za t 1).kind=10)))&&t.kids.all permF)=((plainB t&&(commB (Za t 0)&&decide ((Za t 1).kind=10)))&&(lenK t 2&&t.kids.all permF)) by ac_rfl,Xrg,commF,blockB];show (((plainB t&&lenK t 2)&&_)&&_)=_;ac_rfl;rw [Jxg h];rfl
def Jqc(t:Nd):Bool:=t.kids.all Xga&&plainB t
theorem Yxd{t:Nd}(h:t.kind=22):Jqc t=permF t:=by
 rw [Uo,locB,textB',formB,h];refine Eq.trans (b:=((plainB t&&everyB t (memK [23]))&&t.kids.all permF)) ?_ rfl;rw [Aca,Yvc,Jqc,Boa];congr 2;funext k;rw [Ykf,Yga]
def refStmt(t:Nd):Bool :=
 bif decide (t.kind=6) then varB t
 else bif decide (t.kind=10) then blockB t
 else bif decide (t.kind=18) then ifB t
 else bif decide (t.kind=22) then permF t
 else bif decide (t.kind=11) then (nameB t.text&&lenK t 1)&&exprB (Za t 0)
 else bif anyK [12,16] t.kind then (plainB t&&lenK t 2)&&t.kids.all exprB
 else bif decide (t.kind=13) then (plainB t&&lenK t 1)&&(Qya (Za t 0) 30 || Qya (Za t 0) 33)
 else bif anyK [14,15] t.kind then (plainB t&&lenK t 1)&&Qya (Za t 0) 30
 else bif anyK [17,21] t.kind then (plainB t&&lenK t 1)&&exprB (Za t 0)
 else bif decide (t.kind=20) then (plainB t&&decide ((t.kids.length:Int)≤1))&&t.kids.all exprB
 else bif decide (t.kind=19) then ((plainB t&&lenK t 2)&&(noneB (Za t 0) || exprB (Za t 0)))&&blockB (Za t 1)
 else false
theorem Ucc(t:Nd):Qya t 30=(memK [30] t.kind&&permF t):=by
 rw [Qya,Yga,exprB];by_cases h:t.kind=30;rw [h];rfl;rw [Jxg h];rfl
theorem Ylf(t:Nd):Qya t 33=(decide (t.kind=33)&&permF t):=by
 rw [Qya,exprB];by_cases h:t.kind=33;rw [h];rfl;rw [Jxg h];rfl
theorem Ymf(t:Nd):(Qya t 30 || Qya t 33)=(memK [30,33] t.kind&&permF t):=by
 rw [Ucc,Ylf,Zae,Yga];congr 1;simp [memK,Bool.or_comm]
theorem Jkf{t:Nd}:(decide ((t.kids.length:Int)≤1)&&t.kids.all exprB)=((lenK t 0 || kidsB t [expK])&&t.kids.all permF):=by
 by_cases h:t.kids.length=0;rw [Bza.1 h,show lenK t 0=true by rw [lenK,Zah];omega];rfl;by_cases h1:t.kids.length=1;rw [show lenK t 0=false from Wob 0 h,Bool.false_or,Jzd,show decide ((t.kids.length:Int)≤1)=lenK t 1 by rw [lenK,decide_eq_decide];omega,all_1];rfl;rw [show lenK t 0=false from Wob 0 h,Wqc h1,Jxg O];rfl
theorem Ut(t:Nd):refStmt t=stmtB t:=by
 rw [stmtB];by_cases h:t.kind=6;rw [refStmt,varB,h];rfl;by_cases h1:t.kind=10;rw [refStmt,blockB,h1];rfl;by_cases h2:t.kind=18;rw [refStmt,ifB,h2];rfl;by_cases h3:t.kind=22;rw [refStmt,h3];rfl;rw [Uo,locB];unfold refStmt textB' formB;by_cases h4:t.kind=11;rw [h4];exact fl1;by_cases h5:t.kind=12;rw [h5];exact fl2;by_cases h6:t.kind=16;rw [h6];exact fl2;by_cases h7:t.kind=13;rw [h7];refine Eq.trans ?_ (fl1 (X:=plainB t) (q:=memK [30,33]));rw [← Ymf];rfl;by_cases h8:t.kind=14;rw [h8];refine Eq.trans ?_ (fl1 (X:=plainB t) (q:=memK [30]));rw [← Ucc];rfl;by_cases h9:t.kind=15;rw [h9];refine Eq.trans ?_ (fl1 (X:=plainB t) (q:=memK [30]));rw [← Ucc];rfl;by_cases h10:t.kind=17;rw [h10];exact fl1;by_cases h11:t.kind=21;rw [h11];exact fl1;by_cases h12:t.kind=20;rw [h12];refine Eq.trans (b:=(plainB t&&decide ((t.kids.length:Int)≤1))&&t.kids.all exprB) rfl ?_;rw [Aca,Jkf,← Aca];rfl;by_cases h13:t.kind=19;rw [h13];refine Eq.trans (b:=((plainB t&&lenK t 2)&&(noneB (Za t 0) || exprB (Za t 0)))&&blockB (Za t 1)) J (Eq.trans (b:=((plainB t&&kidsB t [fun k=>expK k || memK [9] k,memK [10]])&&t.kids.all permF)) ?_ J);rw [Aca (plainB t) (kidsB t _),Yvd,Yga,Yga,Wpb,show exprB (Za t 0)=(expK (Za t 0).kind&&permF (Za t 0)) from rfl,Zae,blockB];ac_rfl;simp only [stK,anyK,Jxg h,Jxg h1,Jxg h2,Jxg h3,Jxg h4,Jxg h5,Jxg h6,Jxg h7,Jxg h8,Jxg h9,Jxg h10,Jxg h11,Jxg h12,Jxg h13,Bca,Zeh,Bba]
structure ROk (t:Nd):Prop where
  ex:∀ (p:Option Addr) (c:Nat) (D:Nat→Prop) (w:Aa),Kd w D t.kids (.slice p t.kids.length c)→Ret PP 97 #[ndV t (.slice p t.kids.length c)] w fun r w'=>r = .bool (exprB t)∧G w w'
  bl:∀ (p:Option Addr) (c:Nat) (D:Nat→Prop) (w:Aa),Kd w D t.kids (.slice p t.kids.length c)→Ret PP 82 #[ndV t (.slice p t.kids.length c)] w fun r w'=>r = .bool (blockB t)∧G w w'
  st:∀ (p:Option Addr) (c:Nat) (D:Nat→Prop) (w:Aa),Kd w D t.kids (.slice p t.kids.length c)→Ret PP 99 #[ndV t (.slice p t.kids.length c)] w fun r w'=>r = .bool (stmtB t)∧G w w'
  fi:∀ (p:Option Addr) (c:Nat) (D:Nat→Prop) (w:Aa),Kd w D t.kids (.slice p t.kids.length c)→Ret PP 129 #[ndV t (.slice p t.kids.length c)] w fun r w'=>r = .bool (ifB t)∧G w w'
  cm:∀ (p:Option Addr) (c:Nat) (D:Nat→Prop) (w:Aa),Kd w D t.kids (.slice p t.kids.length c)→Ret PP 155 #[ndV t (.slice p t.kids.length c)] w fun r w'=>r = .bool (commF t)∧G w w'
def Blw(t:Nd):Prop:=∀ k,count k<count t→ROk k
theorem Blw.kid{t:Nd}(ih:Blw t){i:Nat}(h:i<t.kids.length):ROk (Za t i):=by
 refine ih _ ?_;rw [Yj h];have:=Zrb (Afa h);omega
theorem Wi{t:Nd}{i:Nat}(h:i<t.kids.length):count (Za t i)<count t:=by
 rw [Yj h];have:=Zrb (Afa h);omega
section
variable {P:Fa} {n:Nat} {σ:List Ent} {c:Prop} {wb:Aa} {ty:Ba}
theorem Vcg{x y:Ea}{k k':IntKind}{a b:Int}{ts:Array Ba}(h:Ev n σ c x (.int k a))(h':Ev n σ c y (.int k' b)):Rd P n σ c wb (.call { callee:=.builtin .max,args:=#[x,y],argTypes:=ts }) ty (.int k (if b>a then b else a)):=.mk fun d pos after gd a ha hc w1 _=>by
 simp [execOp,resolve,invoke,builtin,h a ha hc,h' a ha hc,Builtin.max_,Builtin.max2]
end
def Wj(t:Nd):Bool:=decide (t.kind=24) || decide (t.kind=25)
def lenQ(a b:Nd):Bool:=decide ((a.kids.length:Int)=b.kids.length)
def cmpT(q:Nd→Nd→Bool)(a:Nd):Nd→Bool:=para (fun a l b=>q a b&&(Ara a.kids.length).all fun i=>(l.getD i fun _=>false) (Za b i)) a
theorem Qge{n:Nat}{f h:Nat→Bool}(e:∀ i,i<n→f i=h i):(Ara n).all f=(Ara n).all h:=by
 rw [Aza,Aia,Aia];exact ⟨fun k i hi=>(e i (Asa.1 hi))▸k i hi,fun k i hi=>(e i (Asa.1 hi)).symm▸k i hi⟩
theorem Jlf(q:Nd→Nd→Bool)(a b:Nd):cmpT q a b=(q a b&&(Ara a.kids.length).all fun i=>cmpT q (Za a i) (Za b i)):=by
 rw [cmpT,Zca];refine congrArg (q a b && ·) (Qge fun i hi=>?_)
 have:(a.kids.map (cmpT q)).getD i (fun _=>false)=cmpT q (Za a i):=by
  rw [Yj hi];simp [Aga,Ala hi]
 exact congrFun this (Za b i)
theorem lenQ_iff{a b:Nd}:lenQ a b=true↔a.kids.length=b.kids.length:=by rw [lenQ,Zah];omega
def tyQB(a b:Ty):Bool:=decide (a.kind=b.kind)&&(decide (a.name=b.name)&&true)
theorem Ynf(a b:Ty):tyQB a b=true↔a=b:=by
 cases a;cases b;simp [tyQB]
def Qab(a b:Nd):Bool:=((((((decide (a.kind=b.kind)&&decide (a.text=b.text))&&decide (a.num=b.num))&&decide (a.pos=b.pos))&&tyQB a.ty b.ty)&&decide (a.ref=b.ref))&&decide (a.up=b.up))&&lenQ a b
theorem Jrc(a b:Nd):(!Qab a b)=(((((((!decide (a.kind=b.kind) || !decide (a.text=b.text)) || !decide (a.num=b.num)) || !decide (a.pos=b.pos)) || !tyQB a.ty b.ty) || !decide (a.ref=b.ref)) || !decide (a.up=b.up)) || !lenQ a b):=by
 unfold Qab;simp only [Bool.not_and]
def smB(a b:Nd):Bool:=cmpT Qab a b
theorem Yof(a b:Nd):smB a b=(Qab a b&&(Ara a.kids.length).all fun i=>smB (Za a i) (Za b i)):=Jlf Qab a b
theorem Qhe{a b:Nd}(h:Qab a b=true):a.kids.length=b.kids.length:=by
 unfold Qab at h;rw [Aaa] at h;exact lenQ_iff.1 h.2
theorem Udc:∀ a,smB a a=true:=by
 refine Nd.ind fun a ih=>?_;rw [Yof,Aaa,Aia];refine ⟨by simp [Qab,lenQ,(Ynf a.ty a.ty).2 rfl],fun i hi=>?_⟩;rw [Yj (Asa.1 hi)];exact ih _ (Afa _)
theorem Ypf:∀ (a:Nd) (va:Ga) (D:Nat→Prop) (b:Nd) (vb:Ga) (D':Nat→Prop) (w:Aa),Kd w D a.kids va→Kd w D' b.kids vb→count a≤1000000→Ret PP 15 #[ndV a va,ndV b vb] w fun r w'=>r = .bool (smB a b)∧G w w':=by
 refine Nd.ind fun a ih va D b vb D' w hka hkb hcn=>?_;obtain ⟨pa,ca,rfl,hcapa,hksa⟩:=hka;have hka0:Kd w D a.kids (.slice pa a.kids.length ca):=⟨pa,ca,rfl,hcapa,hksa⟩;obtain ⟨pb',cb,rfl,hcapb,hksb⟩:=hkb;have hkb0:Kd w D' b.kids (.slice pb' b.kids.length cb):=⟨pb',cb,rfl,hcapb,hksb⟩;have g:=G.refl w;have hln:=Wu a;rw [Yof];refine WK 81 [0,1] Tryz.func15 ?_;refine BM fun _ _ _ _ g E=>?_;refine BN fun _ w3 _ _ g E=>?_;refine IF (fun h1=>?_) fun h1=>?_;replace h1:Qab a b=false:=by simpa using (Jrc a b).trans h1
 refine RTN ?_;rw [h1];exact ⟨rfl,g⟩;replace h1:Qab a b=true:=by simpa using (Jrc a b).trans h1
 have hl:=Qhe h1;refine AU ?_;refine Qk (fun (i:Nat) u1=>(i≤a.kids.length∧∀ j,j<i→smB (Za a j) (Za b j)=true)∧G w3 u1) [(2,True,_),(3,True,_)] (fun (i:Nat)=>[(5,True,.int .i64 i)]) (fun (i:Nat)=>a.kids.length-i) (0) ⟨⟨Aea _,fun j hj=>absurd hj (Bka j)⟩,G.refl _⟩ (Zb J (Zb J (Zb J (Zq _)))) ?_;rintro i u1 ⟨hI1,gl1⟩;have g:=g.trans gl1;replace E:=E.grow gl1;refine IF (fun h2=>?_) fun h2=>?_;replace h2:i<a.kids.length:=by simp only [Zah] at h2;omega
 obtain ⟨hpa,p1,c1,hcell1,hkid1⟩:=Yr hka0 h2;obtain ⟨hpb,p2,c2,hcell2,hkid2⟩:=Yr hkb0 (i:=i) O;have hck:=Wi h2;refine Yu (kq (Zk (Yw (Zk (Xg [3,0,3,3,0,3,0,3,3,0,1,3] [true,true,true,true,true,true,true,true,true,true,true,true] [0,1,0,7,15,0,32,0,224,480,1023,2047] mix KR ?_)))));have g:=gdr g;have gl1:=gl1.trans (G.drew _);replace E:=E.dr;refine Xa Zg J (Xn Zi J (E.g1.at_ J) (Zu J (Yja Zd J J O hpa (Va Zf J J (hcell1.grow g) (Xa Zg J (Xn Zi J (E.g0.at_ J) (Zu J (Yja Zd J J O hpb (Va Zf J J (hcell2.grow g) (Uv J (Zy Xuc Wz (aqc J (aqc J aq0)) J) (ih _ (Yj h2▸Afa h2) _ D _ _ D' _ (hkid1.grow g) (hkid2.grow g) O) (fun w79 g79=>?_)))))))))));have g:=g.trans g79;have gl1:=gl1.trans (g79);replace E:=E.grow g79;refine IF (fun h3=>?_) fun h3=>?_;(try simp only [bsimp] at h3);refine RTN ?_;refine ⟨Jzg ?_,g⟩;rw [h1,Bma,eq_comm,List.all_eq_false];exact ⟨i,Asa.2 h2,by simpa using h3⟩;refine AU ?_;refine SK [5,2,3] ?_;refine Ze (fun a ha=>?_);refine ⟨i+1,ha,⟨⟨h2,fun j hj=>?_⟩,gl1⟩,O⟩;by_cases e:j=i;subst e;simpa using h3;exact hI1.2 j O;refine RTN ?_;refine ⟨Jzg ?_,g⟩;rw [h1,Bma,eq_comm,Aia];intro j hj;exact hI1.2 j (by have:=Asa.1 hj;simp only [Zbh] at h2;omega)
def numS(t:Nd):Int:=bif Wj t then t.num else 0
def stripT(t:Nd):Nd:=para (fun t l=>.mk t.kind t.text (numS t) 0 l ty0 0 0) t
theorem Xha(t:Nd):stripT t = .mk t.kind t.text (numS t) 0 (t.kids.map stripT) ty0 0 0:=Zca _ t
def plainT(t:Nd):Nd:=para (fun t l=>.mk t.kind t.text (numS t) t.pos l ty0 0 0) t
theorem Vb(t:Nd):plainT t = .mk t.kind t.text (numS t) t.pos (t.kids.map plainT) ty0 0 0:=Zca _ t
theorem Vpb(t:Nd):(stripT t).kids.length=t.kids.length:=by rw [Xha,Nd.kids,List.length_map]
theorem Zub(t:Nd):(plainT t).kids.length=t.kids.length:=by rw [Vb,Nd.kids,List.length_map]
theorem Vqd(t:Nd)(v:Ga):ndCells (plainT t) v=[.int .i64 t.kind,Str t.text,.int .i64 (numS t),.int .i64 t.pos,v,.int .i64 0,Str [],.int .i64 0,.int .i64 0]:=by rw [Vb];rfl
theorem Qza(t:Nd):(stripT t).kids=t.kids.map stripT:=by rw [Xha];rfl
theorem Ja(t:Nd):(plainT t).kids=t.kids.map plainT:=by rw [Vb];rfl
structure Vr where
  name:List UInt8
  typ:Ty
  num:Nat
  level:Nat
  scope:Nat
def vrCells(v:Vr):List Ga:=[Str v.name,.int .i64 v.typ.kind,Str v.typ.name,.int .i64 v.num,.int .i64 v.level,.int .i64 v.scope]
structure CSt where
  vars:List Vr
  scope:Nat
  level:Nat
  next:List Nat
  result:Ty
  ea:Int
  ee:Int
def failS(a e:Int)(S:CSt):CSt:=bif decide (S.ee=0) then { S with ea:=a,ee:=e } else S
def failU(b:Bool)(a e:Int)(S:CSt):CSt:=bif b then S else failS a e S
def clnT(t:Nd):Nd:=.mk t.kind t.text (numS t) t.pos [] ty0 0 0
def annT(t:Nd)(ks:List Nd)(y:Ty):Nd:=.mk t.kind t.text (numS t) t.pos ks y 0 0
def findK(kd:Int)(s:List UInt8):List Nd→Nat→Nd×Int
 | [],_=>(nd0,-1)
 | d::l,k=>bif decide (d.kind=kd) then (bif decide (d.text=s) then (d,(k:Int)) else findK kd s l (k+1)) else findK kd s l k
def findD(F:Nd)(kd:Int)(s:List UInt8):Nd×Int:=findK kd s F.kids 0
def pointerS(F n:Nd)(S:CSt):CSt:=bif decide (n.kind=8) then failU (!decide ((findD F 2 n.text).2<0)) n.pos 5 S else S
def localS(F n:Nd)(S:CSt):CSt:=failU (Vl (ofF n).1) n.pos 7 (pointerS F n S)
def openS(S:CSt):CSt:={ S with scope:=S.scope+1 }
def dropV(sc:Nat)(l:List Vr):List Vr:=(l.reverse.dropWhile fun v=>decide (v.scope=sc)).reverse
def shutS(S:CSt):CSt:={ S with vars:=dropV S.scope S.vars,scope:=S.scope-1 }
def dupV(S:CSt)(name:List UInt8):Bool:=S.vars.any fun v=>decide (v.scope=S.scope)&&decide (v.name=name)
def declN(S:CSt):Nat:=S.next.getD S.level 0
def declS(name:List UInt8)(y:Ty)(a:Int)(S:CSt):CSt :=
 let S1:=failU (!dupV S name) a 6 S
 { S1 with next:=S.next.set S.level (declN S+1),vars:=S.vars++[⟨name,y,declN S,S.level,S.scope⟩] }
def findV(l:List Vr)(s:List UInt8):Option Vr:=l.reverse.find? fun v=>decide (v.name=s)
def fncTy(d:Nd):Ty:=bif decide (((Za d 0).kids.length:Int)=0)&&decide ((Za d 1).kind=9) then tFunc else ty0
def lookR(F:Nd)(S:CSt)(n:Nd):Nd×Bool :=
 match findV S.vars n.text with
 | some v=>(.mk n.kind n.text v.num n.pos [] v.typ 1 ((S.level:Int)-v.level),true)
 | none =>
  bif decide (0≤(findD F 6 n.text).2) then (.mk n.kind n.text (findD F 6 n.text).2 n.pos [] (ofF (Za (findD F 6 n.text).1 0)).1 2 0,true)
  else bif decide (0≤(findD F 4 n.text).2) then (.mk n.kind n.text (findD F 4 n.text).2 n.pos [] (fncTy (findD F 4 n.text).1) 3 0,true)
  else (clnT n,false)
structure Ck where
  ex:CSt→Nd×CSt
  mem:CSt→(Nd×Bool)×CSt
  rcv:CSt→Nd×Bool
  cal:CSt→(Nd×List Ty×Ty)×CSt
  st:CSt→Nd×CSt
  blk:CSt→Nd×CSt
  ifs:CSt→Nd×CSt
  sts:CSt→Nd×CSt
  cas:Bool→CSt→Nd×CSt
def ck0:Ck:=⟨fun S=>(nd0,S),fun S=>((nd0,false),S),fun _=>(nd0,false),fun S=>((nd0,[],ty0),S),fun S=>(nd0,S),fun S=>(nd0,S),fun S=>(nd0,S),fun S=>(nd0,S),fun _ S=>(nd0,S)⟩
def wantS(x:Nd)(k a:Int)(S:CSt):CSt:=failU (decide (x.ty.kind=k)) a 7 S
section
variable (F n:Nd) (x:Nat→Ck)
def memR(S:CSt):(Nd×Bool)×CSt :=
 let a:=(x 0).ex S
 bif decide (a.1.ty.kind=4) then
  match (Ug F a.1.ty.name).1.find? fun f=>decide (f.name=n.text) with
  | some f=>((annT n [a.1] f.ty,true),a.2)
  | none=>((annT n [a.1] ty0,false),failS n.pos 5 a.2)
 else ((annT n [a.1] ty0,false),failS n.pos 7 a.2)
def rcvR(S:CSt):Nd×Bool :=
 bif decide (n.kind=27) then ((lookR F S n).1,((lookR F S n).2&&decide ((lookR F S n).1.ref=2))&&decide (8≤(lookR F S n).1.ty.kind))
 else bif decide (n.kind=28) then ((memR F n x S).1.1,((memR F n x S).1.2&&decide ((memR F n x S).2.ee=0))&&decide (8≤(memR F n x S).1.1.ty.kind))
 else (nd0,false)
def argA(ps:List Ty)(S:CSt):Nat→List Nd×CSt
 | 0=>([],S)
 | i+1 =>
  let a:=argA ps S i
  let e:=(x (i+1)).ex a.2
  (a.1++[e.1],failU (!(decide (i<ps.length) && !Vg (ps.getD i ty0) e.1.ty)) (Za n (i+1)).pos 7 e.2)
def callR(S:CSt):Nd×CSt :=
 let c:=(x 0).cal S
 let a:=argA n x c.1.2.1 (failU (decide ((n.kids.length:Int)-1=c.1.2.1.length)) n.pos 7 c.2) (n.kids.length-1)
 (annT n (c.1.1::a.1) c.1.2.2,a.2)
def litS(S:CSt):CSt:={ S with result:=ty0,level:=S.level+1,next:=S.next.take (S.level+1)++[0] }
def litR(S:CSt):Nd×CSt :=
 let b:=(x 0).blk (litS S)
 (annT n [b.1] tFunc,{ b.2 with level:=b.2.level-1,result:=S.result })
def unTy:Ty:=bif decide (n.text=[33]) then tBool else tInt
def opR(S:CSt):Nd×CSt :=
 let a:=(x 0).ex S
 bif decide (n.kind=29) then
  let b:=(x 1).ex (wantS a.1 5 (Za n 0).pos a.2)
  (annT n [a.1,b.1] tInt,wantS b.1 1 (Za n 1).pos b.2)
 else bif decide (n.kind=31) then (annT n [a.1] (unTy n),wantS a.1 (unTy n).kind n.pos a.2)
 else bif decide (n.kind=32) then
  let b:=(x 1).ex a.2
  (annT n [a.1,b.1] (binT n.text a.1.ty b.1.ty).1,failU (binT n.text a.1.ty b.1.ty).2 n.pos 7 b.2)
 else bif decide (n.kind=33) then (annT n [a.1] tInt,wantS a.1 6 n.pos a.2)
 else bif decide (n.kind=37) then (annT n [a.1] tInt,wantS a.1 5 (Za n 0).pos a.2)
 else bif decide (n.kind=35) then (annT n [a.1] ⟨5,[]⟩,wantS a.1 1 (Za n 0).pos a.2)
 else bif decide (n.kind=36) then (annT n [a.1] ⟨6,[]⟩,wantS a.1 1 (Za n 0).pos a.2)
 else (annT n [a.1] ty0,a.2)
def exR(S:CSt):Nd×CSt :=
 bif decide (n.kind=24) then (annT n [] tInt,S)
 else bif decide (n.kind=25) then (annT n [] tBool,S)
 else bif decide (n.kind=26) then (annT n [] tNil,S)
 else bif decide (n.kind=38) then litR n x S
 else bif decide (n.kind=30) then callR n x S
 else bif decide (n.kind=27) then ((lookR F S n).1,bif (lookR F S n).2 then failU (Vl (lookR F S n).1.ty) n.pos 7 S else failS n.pos 5 S)
 else bif decide (n.kind=28) then ((memR F n x S).1.1,failU (!((memR F n x S).1.2 && !Vl (memR F n x S).1.1.ty)) n.pos 7 (memR F n x S).2)
 else bif decide (n.kind=34) then (annT n [] ⟨4,n.text⟩,failU (!decide ((findD F 2 n.text).2<0)) n.pos 5 S)
 else opR n x S
def rcvX(S:CSt):Nd×CSt:=bif decide ((Za n 0).kind=28) then (((x 0).mem S).1.1,((x 0).mem S).2) else (((x 0).rcv S).1,S)
def calR(S:CSt):(Nd×List Ty×Ty)×CSt :=
 bif decide (n.kind=28)&&((x 0).rcv S).2 then
  let r:=rcvX n x S
  ((annT n [r.1] ty0,(mthF r.1.ty n.text).1,(mthF r.1.ty n.text).2.1),failU (mthF r.1.ty n.text).2.2 n.pos 5 r.2)
 else bif decide (n.kind=27)&&((lookR F S n).2&&decide ((lookR F S n).1.ref=3)) then
  (((lookR F S n).1,(Za (findD F 4 n.text).1 0).kids.map (fun p=>(ofF (Za p 0)).1),(ofF (Za (findD F 4 n.text).1 1)).1),S)
 else
  let a:=exR F n x S
  ((a.1,[],ty0),failU (tyEqB a.1.ty tFunc) n.pos 7 a.2)
def stA(S:CSt):Nat→List Nd×CSt
 | 0=>([],S)
 | i+1 =>
  let a:=stA S i
  let e:=(x i).st a.2
  (a.1++[e.1],e.2)
def stsR(S:CSt):Nd×CSt:=(annT n (stA x S n.kids.length).1 ty0,(stA x S n.kids.length).2)
def blkR(S:CSt):Nd×CSt:=((stsR n x (openS S)).1,shutS (stsR n x (openS S)).2)
def condR(k:Nd)(y:Ck)(S:CSt):Nd×CSt :=
 bif decide (k.kind=9) then (clnT k,S) else ((y.ex S).1,wantS (y.ex S).1 2 k.pos (y.ex S).2)
def ifR(S:CSt):Nd×CSt :=
 let a:=condR (Za n 0) (x 0) S
 let b:=(x 1).blk a.2
 let e:=bif decide ((Za n 2).kind=10) then (x 2).blk b.2 else bif decide ((Za n 2).kind=18) then (x 2).ifs b.2 else (clnT (Za n 2),b.2)
 (annT n [a.1,b.1,e.1] ty0,e.2)
def asgR(S:CSt):Nd×CSt :=
 let a:=(x 0).ex S
 let b:=(x 1).ex (failU (((decide (a.1.kind=27) && !decide (a.1.ref=3)) || decide (a.1.kind=28)) || decide (a.1.kind=29)) (Za n 0).pos 7 a.2)
 (annT n [a.1,b.1] ty0,failU (Vg a.1.ty b.1.ty) (Za n 1).pos 7 b.2)
def casR(first:Bool)(S:CSt):Nd×CSt :=
 let a:=bif decide ((Za n 0).kind=9) then (clnT (Za n 0),failU first n.pos 6 (openS S)) else (x 0).st (openS S)
 let b:=(x 1).sts a.2
 (annT n [a.1,b.1] ty0,shutS b.2)
def selA(S:CSt):Nat→List Nd×Bool×CSt
 | 0=>([],true,S)
 | i+1 =>
  let a:=selA S i
  let e:=(x i).cas a.2.1 a.2.2
  (a.1++[e.1],a.2.1 && !decide ((Za (Za n i) 0).kind=9),e.2)
def selR(S:CSt):Nd×CSt:=(annT n (selA n x S n.kids.length).1 ty0,(selA n x S n.kids.length).2.2)
def dclT(ks:List Nd)(k:Nat):Nd:=.mk n.kind n.text k n.pos ks ty0 1 0
def varR(S:CSt):Nd×CSt :=
 let a:=bif decide ((Za n 1).kind=9) then (clnT (Za n 1),localS F (Za n 0) S) else (((x 1).ex (localS F (Za n 0) S)).1,failU (Vg (ofF (Za n 0)).1 ((x 1).ex (localS F (Za n 0) S)).1.ty) (Za n 1).pos 7 ((x 1).ex (localS F (Za n 0) S)).2)
 (dclT n [plainT (Za n 0),a.1] (declN a.2),declS n.text (ofF (Za n 0)).1 n.pos a.2)
def defR(S:CSt):Nd×CSt :=
 let a:=(x 0).ex S
 let S1:=failU (Vl a.1.ty) (Za n 0).pos 7 a.2
 (dclT n [a.1] (declN S1),declS n.text a.1.ty n.pos S1)
def forR(S:CSt):Nd×CSt :=
 let a:=condR (Za n 0) (x 0) S
 let b:=(x 1).blk a.2
 (annT n [a.1,b.1] ty0,b.2)
def retR(S:CSt):Nd×CSt :=
 let S1:=failU (!Bool.xor (decide ((n.kids.length:Int)=1)) (!tyEqB S.result ty0)) n.pos 7 S
 bif decide ((n.kids.length:Int)=1) then
  (annT n [((x 0).ex S1).1] ty0,failU (Vg ((x 0).ex S1).2.result ((x 0).ex S1).1.ty) (Za n 0).pos 7 ((x 0).ex S1).2)
 else (annT n [] ty0,S1)
def stR(S:CSt):Nd×CSt :=
 bif decide (n.kind=10) then blkR n x S
 else bif decide (n.kind=18) then ifR n x S
 else bif decide (n.kind=12) then asgR n x S
 else bif decide (n.kind=22) then selR n x S
 else bif decide (n.kind=6) then varR F n x S
 else bif decide (n.kind=11) then defR n x S
 else bif decide (n.kind=19) then forR n x S
 else bif decide (n.kind=20) then retR n x S
 else
  let a:=(x 0).ex S
  bif decide (n.kind=16) then
   let b:=(x 1).ex (wantS a.1 6 (Za n 0).pos a.2)
   (annT n [a.1,b.1] ty0,wantS b.1 1 (Za n 1).pos b.2)
  else bif decide (n.kind=17) then (annT n [a.1] ty0,wantS a.1 6 (Za n 0).pos a.2)
  else bif decide (n.kind=21) then (annT n [a.1] ty0,failU (decide (a.1.ty.kind=1) || decide (a.1.ty.kind=2)) (Za n 0).pos 7 a.2)
  else (annT n [a.1] ty0,a.2)
end
def ckF(F t:Nd)(x:Nat→Ck):Ck:=⟨exR F t x,memR F t x,rcvR F t x,calR F t x,stR F t x,blkR t x,ifR t x,stsR t x,casR t x⟩
def ckT(F t:Nd):Ck:=para (fun t l=>ckF F t fun i=>l.getD i ck0) t
def ckX(F t:Nd)(i:Nat):Ck:=(t.kids.map (ckT F)).getD i ck0
theorem Vm(F t:Nd):ckT F t=ckF F t (ckX F t):=Zca _ t
theorem Xx{F t:Nd}{i:Nat}(h:i<t.kids.length):ckX F t i=ckT F (Za t i):=by
 rw [ckX,Yj h];simp [Aga,Ala h]
/-! the file -/
def parA(F p:Nd)(S:CSt):Nat→List Nd×CSt
 | 0=>([],S)
 | i+1 =>
  let a:=parA F p S i
  let f:=Za p i
  (a.1++[.mk f.kind f.text (declN a.2) f.pos (f.kids.map plainT) ty0 1 0],localS F (Za f 0) (declS f.text (ofF (Za f 0)).1 f.pos a.2))
def endP(t:Nd)(l:List (Bool×Bool)):Bool×Bool :=
 (bif decide (t.kind=20) then true
  else bif decide (t.kind=19) then decide ((Za t 0).kind=9)
  else bif decide (t.kind=10) then (l.getLast?.getD (false,false)).1
  else bif decide (t.kind=18) then (l.getD 1 (false,false)).2&&((decide ((Za t 2).kind=10)&&(l.getD 2 (false,false)).2) || (decide ((Za t 2).kind=18)&&(l.getD 2 (false,false)).1))
  else false,(l.getLast?.getD (false,false)).1)
def endT(t:Nd):Bool×Bool:=para endP t
theorem Zda(t:Nd):endT t=endP t (t.kids.map endT):=Zca _ t
def endsL(l:List Nd):Bool:=((l.map endT).getLast?.getD (false,false)).1
theorem Ywc(t:Nd):(endT t).2=endsL t.kids:=by rw [Zda];rfl
def funS0(S:CSt):CSt:={ S with vars:=[],scope:=0,level:=0,next:=[0] }
def funS1(F n:Nd)(S:CSt):CSt:={ (parA F (Za n 0) (funS0 S) (Za n 0).kids.length).2 with result:=ty0 }
def funS2(F n:Nd)(S:CSt):CSt:=bif decide ((Za n 1).kind=9) then funS1 F n S else { localS F (Za n 1) (funS1 F n S) with result:=(ofF (Za n 1)).1 }
def funR(F n:Nd)(S:CSt):Nd×CSt :=
 let b:=(ckT F (Za n 2)).sts (funS2 F n S)
 (annT n [annT (Za n 0) (parA F (Za n 0) (funS0 S) (Za n 0).kids.length).1 ty0,plainT (Za n 1),b.1] ty0,
  failU (decide ((Za n 1).kind=9) || endsL (Za n 2).kids) n.pos 7 b.2)
def dupAt(n:Nd)(i:Nat):Bool:=(n.kids.take i).any fun k=>decide (k.text=(Za n i).text)
def namA(n:Nd)(S:CSt):Nat→CSt
 | 0=>S
 | i+1=>failU (!dupAt n i) (Za n i).pos 6 (namA n S i)
def strA(F n:Nd)(S:CSt):Nat→CSt
 | 0=>S
 | i+1=>pointerS F (Za (Za n i) 0) (failU (!dupAt n i) (Za n i).pos 6 (strA F n S i))
def dclR(F n:Nd)(S:CSt):Nd×CSt :=
 bif decide (n.kind=2) then (plainT n,strA F n S n.kids.length)
 else bif decide (n.kind=6) then (plainT n,pointerS F (Za n 0) S)
 else bif decide (n.kind=4) then funR F n S
 else (plainT n,S)
def dclA(F:Nd)(S:CSt):Nat→List Nd×CSt
 | 0=>([],S)
 | i+1 =>
  let a:=dclA F S i
  let e:=dclR F (Za F i) a.2
  (a.1++[e.1],e.2)
def rs0:CSt:=⟨[],0,0,[],ty0,0,0⟩
def mainS(F:Nd)(S:CSt):CSt :=
 bif decide ((findD F 4 [109,97,105,110]).2<0) then failS 0 5 S
 else bif decide (0<((Za (findD F 4 [109,97,105,110]).1 0).kids.length:Int)) || !decide ((Za (findD F 4 [109,97,105,110]).1 1).kind=9) then failS (findD F 4 [109,97,105,110]).1.pos 7 S else S
def refS(F:Nd):CSt:=mainS F (dclA F (namA F rs0 F.kids.length) F.kids.length).2
def refA(F:Nd):Nd:=annT F (dclA F (namA F rs0 F.kids.length) F.kids.length).1 ty0
def refCheck(F:Nd):Nd×Int×Int :=
 bif validB F then (bif decide ((refS F).ee=0) then (refA F,0,0) else (nd0,(refS F).ea,(refS F).ee)) else (nd0,0,1)
structure Bd (S:CSt) (N:Nat):Prop where
  vl:S.vars.length≤N
  nl:S.next.length≤N+1
  nx:∀ k∈S.next,k≤N
  lv:S.level<S.next.length
  sc:S.scope≤N
  vs:∀ v∈S.vars,v.num≤N∧v.level≤N∧v.scope≤N
theorem Bd.mono{S:CSt}{N M:Nat}(h:Bd S N)(hm:N≤M):Bd S M :=
 ⟨Aha h.vl hm,by have:=h.nl;omega,fun k hk=>Aha (h.nx k hk) hm,h.lv,Aha h.sc hm,fun v hv=>by have:=h.vs v hv;omega⟩
structure Stp (d:Nat) (S S':CSt):Prop where
  level:S'.level=S.level
  scope:S'.scope=S.scope
  result:S'.result=S.result
  ers:S.ee≠0→S'.ee=S.ee∧S'.ea=S.ea
  bd:∀ N,Bd S N→Bd S' (N+d)
theorem Stp.er{d:Nat}{S S':CSt}(h:Stp d S S')(h0:S'.ee=0):S.ee=0:=Decidable.byContradiction fun hn=>hn ((h.ers hn).1.symm.trans h0)
theorem Stp.refl(S:CSt):Stp 0 S S:=⟨rfl,rfl,rfl,fun _=>⟨rfl,rfl⟩,fun N h=>h⟩
theorem Stp.trans{a b:Nat}{S T U:CSt}(h:Stp a S T)(k:Stp b T U):Stp (a+b) S U :=
 ⟨k.level.trans h.level,k.scope.trans h.scope,k.result.trans h.result,fun he=>⟨(k.ers (by rw [(h.ers he).1];exact he)).1.trans (h.ers he).1,(k.ers (by rw [(h.ers he).1];exact he)).2.trans (h.ers he).2⟩,fun N hN=>by have:=k.bd _ (h.bd N hN);rwa [Nat.add_assoc] at this⟩
theorem Stp.mono{a b:Nat}{S T:CSt}(h:Stp a S T)(hb:a≤b):Stp b S T:=⟨h.level,h.scope,h.result,h.ers,fun N hN=>(h.bd N hN).mono O⟩
theorem Stp.of{S T:CSt}(h1:T.vars=S.vars)(h2:T.scope=S.scope)(h3:T.level=S.level)(h4:T.next=S.next)(h5:T.result=S.result)(h6:S.ee≠0→T.ee=S.ee∧T.ea=S.ea):Stp 0 S T :=
 ⟨h3,h2,h5,h6,fun N h=>⟨by rw [h1];exact h.vl,by rw [h4];exact h.nl,by rw [h4];exact h.nx,by rw [h3,h4];exact h.lv,by rw [h2];exact h.sc,by rw [h1];exact h.vs⟩⟩
theorem Jb(a e:Int)(S:CSt):(failS a e S).vars=S.vars∧(failS a e S).scope=S.scope∧(failS a e S).level=S.level∧(failS a e S).next=S.next∧(failS a e S).result=S.result∧(S.ee≠0→(failS a e S).ee=S.ee∧(failS a e S).ea=S.ea):=by
 unfold failS;cases h:decide (S.ee=0);exact ⟨rfl,rfl,rfl,rfl,rfl,fun _=>⟨rfl,rfl⟩⟩;exact ⟨rfl,rfl,rfl,rfl,rfl,fun hn=>absurd (Zch h) hn⟩
theorem Qg(b:Bool)(a e:Int)(S:CSt):(failU b a e S).vars=S.vars∧(failU b a e S).scope=S.scope∧(failU b a e S).level=S.level∧(failU b a e S).next=S.next∧(failU b a e S).result=S.result∧(S.ee≠0→(failU b a e S).ee=S.ee∧(failU b a e S).ea=S.ea):=by
 unfold failU;cases b;exact Jb a e S;exact ⟨rfl,rfl,rfl,rfl,rfl,fun _=>⟨rfl,rfl⟩⟩
theorem Jsc(a e:Int)(S:CSt):Stp 0 S (failS a e S):=by obtain ⟨h1,h2,h3,h4,h5,h6⟩:=Jb a e S;exact Stp.of h1 h2 h3 h4 h5 h6
theorem Jtc(b:Bool)(a e:Int)(S:CSt):Stp 0 S (failU b a e S):=by obtain ⟨h1,h2,h3,h4,h5,h6⟩:=Qg b a e S;exact Stp.of h1 h2 h3 h4 h5 h6
theorem Stp.fail{d:Nat}{S T:CSt}(h:Stp d S T)(a e:Int):Stp d S (failS a e T):=h.trans (Jsc a e T)
theorem Stp.failu{d:Nat}{S T:CSt}(h:Stp d S T)(b:Bool)(a e:Int):Stp d S (failU b a e T):=h.trans (Jtc b a e T)
theorem Stp.cond{d:Nat}{S T U:CSt}{b:Bool}(h:Stp d S T)(k:Stp d S U):Stp d S (bif b then T else U):=by cases b <;> assumption
theorem Wqb(F n:Nd)(S:CSt):Stp 0 S (pointerS F n S):=((Stp.refl S).failu _ _ _).cond (Stp.refl S)
theorem Uza(F n:Nd)(S:CSt):Stp 0 S (localS F n S):=(Wqb F n S).failu _ _ _
theorem Jmf{l:List Nat}{i:Nat}{a x:Nat}(h:x∈l.set i a):x∈l∨x=a:=List.mem_or_eq_of_mem_set h
theorem Yqf{S:CSt}{N:Nat}(h:Bd S N):declN S≤N:=by
 have hl:=h.lv;have:declN S=S.next[S.level]:=by rw [declN,Aga,Ala hl];rfl
 rw [this];exact h.nx _ (Afa hl)
theorem Wrb(s:List UInt8)(y:Ty)(a:Int)(S:CSt):Stp 1 S (declS s y a S):=by
 have hq:=Qg (!dupV S s) a 6 S;refine ⟨hq.2.2.1,hq.2.1,hq.2.2.2.2.1,hq.2.2.2.2.2,fun N h=>?_⟩;have hd:=Yqf h;refine ⟨?_,?_,?_,?_,?_,?_⟩;show (S.vars++[_]).length≤_;have:=h.vl;simp;omega;show (S.next.set _ _).length≤_;have:=h.nl;simp;omega;intro k hk;rcases Jmf (show k∈S.next.set S.level (declN S+1) from hk) with h1|h1;have:=h.nx k h1;omega;omega;show (failU (!dupV S s) a 6 S).level<(S.next.set _ _).length;rw [hq.2.2.1];have:=h.lv;simp;omega;show (failU (!dupV S s) a 6 S).scope≤_;rw [hq.2.1];have:=h.sc;omega;intro v hv;have hv:v∈S.vars++[⟨s,y,declN S,S.level,S.scope⟩]:=hv;rcases Ata.1 hv with h1|h1;have:=h.vs v h1;omega;obtain rfl:=Bpa.1 h1;have h2:=h.lv;have h3:=h.nl;have h4:=h.sc;exact ⟨by show declN S≤_;omega,by show S.level≤_;omega,by show S.scope≤_;omega⟩
theorem Qie(sc:Nat)(l:List Vr):(dropV sc l).length≤l.length:=by
 unfold dropV;rw [Cca];have h:(l.reverse.dropWhile fun v=>decide (v.scope=sc)).length≤l.reverse.length:=(Cda _).length_le;rwa [Cca] at h
theorem Qje{sc:Nat}{l:List Vr}{v:Vr}(h:v∈dropV sc l):v∈l:=by
 unfold dropV at h;exact Aua.1 ((Cda _).subset (Aua.1 h))
theorem Juc{d:Nat}{S T:CSt}(h:Stp d (openS S) T):Stp (1+d) S (shutS T):=by
 refine ⟨h.level,?_,h.result,h.ers,fun N hN=>?_⟩;show T.scope-1=S.scope;rw [h.scope];rfl;have h1:Bd (openS S) (N+1):=⟨by have:=hN.vl;show S.vars.length≤_;omega,by have:=hN.nl;show S.next.length≤_;omega,fun k hk=>by have:=hN.nx k hk;omega,hN.lv,by have:=hN.sc;show S.scope+1≤_;omega,fun v hv=>by have:=hN.vs v hv;omega⟩;have h2:=h.bd _ h1;rw [show N+1+d=N+(1+d) by omega] at h2;refine ⟨Aha (Qie _ _) h2.vl,h2.nl,h2.nx,h2.lv,Aha (Nat.sub_le _ _) h2.sc,fun v hv=>h2.vs v (Qje hv)⟩
theorem Yrf{S:CSt}{N:Nat}(h:Bd S N):Bd (litS S) (N+1):=by
 have hl:=h.lv;have hn:=h.nl;refine ⟨by have:=h.vl;show S.vars.length≤_;omega,?_,?_,?_,by have:=h.sc;show S.scope≤_;omega,fun v hv=>by have:=h.vs v hv;omega⟩;show (S.next.take (S.level+1)++[0]).length≤_;simp;omega;intro k hk;rcases Ata.1 (show k∈S.next.take (S.level+1)++[0] from hk) with h1|h1;have:=h.nx k (List.mem_of_mem_take h1);omega;simp at h1;omega;show S.level+1<(S.next.take (S.level+1)++[0]).length;simp;omega
theorem Jnf{d:Nat}{S T:CSt}(h:Stp d (litS S) T):Stp (1+d) S { T with level:=T.level-1,result:=S.result }:=by
 have hl:T.level=S.level+1:=h.level;refine ⟨by show T.level-1=_;omega,h.scope,rfl,h.ers,fun N hN=>?_⟩;have h2:=h.bd _ (Yrf hN);rw [show N+1+d=N+(1+d) by omega] at h2;exact ⟨h2.vl,h2.nl,h2.nx,by have:=h2.lv;show T.level-1<T.next.length;omega,h2.sc,h2.vs⟩
/-! children's counts -/
def cN(t:Nd)(i:Nat):Nat:=(t.kids.map count).getD i 0
def sC(t:Nd):Nat→Nat
 | 0=>0
 | i+1=>sC t i+cN t i
theorem sC_eq(t:Nd)(i:Nat):sC t i=((t.kids.map count).take i).sum:=by
 induction i with
 | zero=>rfl
 | succ i ih =>
  rw [sC,ih,List.take_add_one,cN,Aga,List.sum_append];cases (t.kids.map count)[i]? <;> simp
theorem Uca(t:Nd)(i:Nat):sC t i+1≤count t:=by
 rw [sC_eq,Qm];have:=Xxc (t.kids.map count) i;omega
theorem Xya{t:Nd}{i:Nat}(h:i<t.kids.length):cN t i=count (Za t i):=by
 rw [cN,Yj h];simp [Aga,Ala h]
structure CkS (c:Ck) (d:Nat):Prop where
  ex:∀ S,Stp d S (c.ex S).2
  mem:∀ S,Stp d S (c.mem S).2
  cal:∀ S,Stp d S (c.cal S).2
  st:∀ S,Stp d S (c.st S).2
  blk:∀ S,Stp d S (c.blk S).2
  ifs:∀ S,Stp d S (c.ifs S).2
  sts:∀ S,Stp d S (c.sts S).2
  cas:∀ f S,Stp d S (c.cas f S).2
theorem Xsg:CkS ck0 0:=⟨fun S=>Stp.refl S,fun S=>Stp.refl S,fun S=>Stp.refl S,fun S=>Stp.refl S,fun S=>Stp.refl S,fun S=>Stp.refl S,fun S=>Stp.refl S,fun _ S=>Stp.refl S⟩
section
variable {F t:Nd} {x:Nat→Ck}
theorem Xle(X:∀ i,CkS (x i) (cN t i))(S:CSt):Stp (sC t 1) S (memR F t x S).2:=by
 have h:Stp (sC t 1) S ((x 0).ex S).2:=((X 0).ex S).mono (by simp [sC]);unfold memR;dsimp only;cases decide (((x 0).ex S).1.ty.kind=4);exact h.fail _ _;simp only [Zfh];split;exact h;exact h.fail _ _
theorem Yyd(X:∀ i,CkS (x i) (cN t i))(ps:List Ty){S T:CSt}(h:Stp (sC t 1) S T):∀ i,Stp (sC t (i+1)) S (argA t x ps T i).2
 | 0=>h
 | i+1=>((Yyd X ps h i).trans ((X (i+1)).ex _)).failu _ _ _
theorem Ysf(X:∀ i,CkS (x i) (cN t i))(S:CSt):Stp (sC t (t.kids.length-1+1)) S (callR t x S).2 :=
 Yyd X _ ((((X 0).cal S).mono (by simp [sC])).failu _ _ _) _
theorem Ytf(X:∀ i,CkS (x i) (cN t i))(S:CSt):Stp (1+sC t 1) S (litR t x S).2:=Jnf (((X 0).blk _).mono (by simp [sC]))
theorem Wrc(X:∀ i,CkS (x i) (cN t i))(S:CSt):Stp (sC t 1) S ((x 0).ex S).2:=((X 0).ex S).mono (by simp [sC])
theorem Vdg(X:∀ i,CkS (x i) (cN t i))(S:CSt):Stp (sC t 2) S (opR t x S).2:=by
 have h:=Wrc X S;have h1:∀ T,Stp (sC t 1) S T→Stp (sC t 2) S ((x 1).ex T).2:=fun T hT=>hT.trans ((X 1).ex T);have hm:∀ {T},Stp (sC t 1) S T→Stp (sC t 2) S T:=fun hT=>hT.mono (Nat.le_add_right _ _);unfold opR;dsimp only [wantS];repeat' (first|(generalize decide (t.kind=_)=q;cases q <;> simp only [Zfh,Zeh]))
 all_goals first
  | exact (h1 _ (h.failu _ _ _)).failu _ _ _
  | exact (h1 _ h).failu _ _ _
  | exact hm (h.failu _ _ _)
  | exact hm h
theorem Xme(X:∀ i,CkS (x i) (cN t i))(S:CSt):Stp (count t) S (exR F t x S).2:=by
 have hc:∀ i,sC t i+1≤count t:=Uca t;have h0:∀ {T},Stp 0 S T→Stp (count t) S T:=fun h=>h.mono (Aea _);unfold exR;cases decide (t.kind=24);case true=>exact h0 (Stp.refl S)
 cases decide (t.kind=25);case true=>exact h0 (Stp.refl S)
 cases decide (t.kind=26);case true=>exact h0 (Stp.refl S)
 cases decide (t.kind=38);case true=>exact (Ytf X S).mono (by have:=hc 1;omega)
 cases decide (t.kind=30);case true=>exact (Ysf X S).mono (by have:=hc (t.kids.length-1+1);omega)
 cases decide (t.kind=27);case true=>exact h0 (((Stp.refl S).failu _ _ _).cond ((Stp.refl S).fail _ _))
 cases decide (t.kind=28);case true=>exact ((Xle X S).failu _ _ _).mono (by have:=hc 1;omega)
 cases decide (t.kind=34);case true=>exact h0 ((Stp.refl S).failu _ _ _)
 exact (Vdg X S).mono (by have:=hc 2;omega)
theorem Jof(X:∀ i,CkS (x i) (cN t i))(S:CSt):Stp (count t) S (calR F t x S).2:=by
 have hc:=Uca t 1;unfold calR;dsimp only;cases decide (t.kind=28)&&((x 0).rcv S).2;simp only [Zeh];cases decide (t.kind=27)&&((lookR F S t).2&&decide ((lookR F S t).1.ref=3));exact (Xme X S).failu _ _ _;exact (Stp.refl S).mono (Aea _);refine Stp.failu ?_ _ _ _;unfold rcvX;cases decide ((Za t 0).kind=28);exact (Stp.refl S).mono (Aea _);exact ((X 0).mem S).mono (by simp [sC] at hc;omega)
theorem Yzd(X:∀ i,CkS (x i) (cN t i))(S:CSt):∀ i,Stp (sC t i) S (stA x S i).2
 | 0=>Stp.refl S
 | i+1=>(Yzd X S i).trans ((X i).st _)
theorem Xne(X:∀ i,CkS (x i) (cN t i))(S:CSt):Stp (sC t t.kids.length) S (stsR t x S).2:=Yzd X S _
theorem Wsc(X:∀ i,CkS (x i) (cN t i))(S:CSt):Stp (count t) S (blkR t x S).2:=(Juc (Xne X (openS S))).mono (by have:=Uca t t.kids.length;omega)
theorem Vrd(X:∀ i,CkS (x i) (cN t i))(k:Nd){S T:CSt}(h:Stp 0 S T):Stp (sC t 1) S (condR k (x 0) T).2:=by
 unfold condR;cases decide (k.kind=9);exact (h.trans ((X 0).ex T)).mono (by simp [sC]) |>.failu _ _ _
 exact h.mono (Aea _)
theorem Yuf(X:∀ i,CkS (x i) (cN t i))(S:CSt):Stp (sC t 3) S (ifR t x S).2:=by
 have h1:Stp (sC t 2) S ((x 1).blk (condR (Za t 0) (x 0) S).2).2:=(Vrd X _ (Stp.refl S)).trans ((X 1).blk _);unfold ifR;dsimp only;cases decide ((Za t 2).kind=10);cases decide ((Za t 2).kind=18);exact h1.mono (Nat.le_add_right _ _);exact h1.trans ((X 2).ifs _);exact h1.trans ((X 2).blk _)
theorem Jpf(X:∀ i,CkS (x i) (cN t i))(S:CSt):Stp (sC t 2) S (asgR t x S).2:=(((Wrc X S).failu _ _ _).trans ((X 1).ex _)).failu _ _ _
theorem Xad(X:∀ i,CkS (x i) (cN t i))(f:Bool)(S:CSt):Stp (1+sC t 2) S (casR t x f S).2:=by
 refine Juc (Stp.trans (a:=sC t 1) (T:=(bif decide ((Za t 0).kind=9) then (clnT (Za t 0),failU f t.pos 6 (openS S)) else (x 0).st (openS S)).2) ?_ ((X 1).sts _));cases decide ((Za t 0).kind=9);exact ((X 0).st _).mono (by simp [sC]);exact ((Stp.refl _).failu _ _ _).mono (Aea _)
theorem Uec(X:∀ i,CkS (x i) (cN t i))(S:CSt):∀ i,Stp (sC t i) S (selA t x S i).2.2
 | 0=>Stp.refl S
 | i+1=>(Uec X S i).trans ((X i).cas _ _)
theorem Jqf(X:∀ i,CkS (x i) (cN t i))(S:CSt):Stp (1+sC t 2) S (varR F t x S).2:=by
 unfold varR;dsimp only;cases decide ((Za t 1).kind=9);exact (((((Uza F _ S).trans ((X 1).ex _)).failu _ _ _).trans (Wrb _ _ _ _)).mono (by simp [sC];omega));exact ((Uza F _ S).trans (Wrb _ _ _ _)).mono O
theorem Jrf(X:∀ i,CkS (x i) (cN t i))(S:CSt):Stp (1+sC t 1) S (defR t x S).2:=(((Wrc X S).failu _ _ _).trans (Wrb _ _ _ _)).mono O
theorem Jsf(X:∀ i,CkS (x i) (cN t i))(S:CSt):Stp (sC t 2) S (forR t x S).2:=(Vrd X _ (Stp.refl S)).trans ((X 1).blk _)
theorem Jtf(X:∀ i,CkS (x i) (cN t i))(S:CSt):Stp (sC t 1) S (retR t x S).2:=by
 unfold retR;dsimp only;cases decide ((t.kids.length:Int)=1);exact ((Stp.refl S).failu _ _ _).mono (Aea _);exact ((((Stp.refl S).failu _ _ _).trans ((X 0).ex _)).mono (by simp [sC])).failu _ _ _
theorem Juf(X:∀ i,CkS (x i) (cN t i))(S:CSt):Stp (count t) S (stR F t x S).2:=by
 have hc:∀ i,sC t i+1≤count t:=Uca t;unfold stR;dsimp only;cases decide (t.kind=10);case true=>exact Wsc X S
 cases decide (t.kind=18);case true=>exact (Yuf X S).mono (by have:=hc 3;omega)
 cases decide (t.kind=12);case true=>exact (Jpf X S).mono (by have:=hc 2;omega)
 cases decide (t.kind=22);case true=>exact (Uec X S _).mono (by have:=hc t.kids.length;omega)
 cases decide (t.kind=6);case true=>exact (Jqf X S).mono (by have:=hc 2;omega)
 cases decide (t.kind=11);case true=>exact (Jrf X S).mono (by have:=hc 1;omega)
 cases decide (t.kind=19);case true=>exact (Jsf X S).mono (by have:=hc 2;omega)
 cases decide (t.kind=20);case true=>exact (Jtf X S).mono (by have:=hc 1;omega)
 have h:=Wrc X S;simp only [Zeh,wantS];cases decide (t.kind=16);case true=>exact (((h.failu _ _ _).trans ((X 1).ex _)).failu _ _ _).mono (by have:=hc 2;simp only [sC] at this ⊢;omega)
 cases decide (t.kind=17);case true=>exact (h.failu _ _ _).mono (by have:=hc 1;omega)
 cases decide (t.kind=21);case true=>exact (h.failu _ _ _).mono (by have:=hc 1;omega)
 exact h.mono (by have:=hc 1;omega)
theorem cks_f(X:∀ i,CkS (x i) (cN t i)):CkS (ckF F t x) (count t) :=
 ⟨Xme X,fun S=>(Xle X S).mono (by have:=Uca t 1;omega),Jof X,Juf X,Wsc X,fun S=>(Yuf X S).mono (by have:=Uca t 3;omega),fun S=>(Xne X S).mono (by have:=Uca t t.kids.length;omega),fun f S=>(Xad X f S).mono (by have:=Uca t 2;omega)⟩
end
theorem Uh(F:Nd):∀ t,CkS (ckT F t) (count t):=by
 refine Nd.ind fun t ih=>?_;rw [Vm];refine cks_f fun i=>?_;by_cases h:i<t.kids.length;rw [Xx h,Xya h,Yj h];exact ih _ (Afa h);rw [ckX,cN];simp only [Aga,Ana];rw [Aka O];exact Xsg
theorem Xeb(F t:Nd)(i:Nat):CkS (ckX F t i) (cN t i):=by
 by_cases h:i<t.kids.length;rw [Xx h,Xya h];exact Uh F _;rw [ckX,cN];simp only [Aga,Ana];rw [Aka O];exact Xsg
def Sc(S:CSt):Prop:=∀ v∈S.vars,v.scope≤S.scope
structure Vs (S T:CSt):Prop where
  vars:T.vars=S.vars
  scope:T.scope=S.scope
structure Vp (S T:CSt):Prop where
  vars:∃ l,T.vars=S.vars++l∧∀ v∈l,v.scope=S.scope
  scope:T.scope=S.scope
theorem Vs.refl(S:CSt):Vs S S:=⟨rfl,rfl⟩
theorem Vs.trans{S T U:CSt}(h:Vs S T)(k:Vs T U):Vs S U:=⟨k.vars.trans h.vars,k.scope.trans h.scope⟩
theorem Vs.sc{S T:CSt}(h:Vs S T)(k:Sc S):Sc T:=fun v hv=>by rw [h.scope];exact k v (h.vars▸hv)
theorem Vs.vp{S T:CSt}(h:Vs S T):Vp S T:=⟨⟨[],by rw [h.vars,List.append_nil],fun v hv=>by cases hv⟩,h.scope⟩
theorem Vp.sc{S T:CSt}(h:Vp S T)(k:Sc S):Sc T:=fun v hv=>by
 obtain ⟨l,h1,h2⟩:=h.vars;rw [h.scope];rcases Ata.1 (h1▸hv) with q|q;exact k v q;exact Nat.le_of_eq (h2 v q)
theorem Vp.trans{S T U:CSt}(h:Vp S T)(k:Vp T U):Vp S U:=by
 obtain ⟨l,h1,h2⟩:=h.vars;obtain ⟨m,k1,k2⟩:=k.vars;refine ⟨⟨l++m,by rw [k1,h1,Bqa],fun v hv=>?_⟩,k.scope.trans h.scope⟩;rcases Ata.1 hv with q|q;exact h2 v q;rw [k2 v q,h.scope]
theorem Xbd(a e:Int)(S:CSt):Vs S (failS a e S):=⟨(Jb a e S).1,(Jb a e S).2.1⟩
theorem Zla(b:Bool)(a e:Int)(S:CSt):Vs S (failU b a e S):=⟨(Qg b a e S).1,(Qg b a e S).2.1⟩
theorem Vs.fail{S T:CSt}(h:Vs S T)(a e:Int):Vs S (failS a e T):=h.trans (Xbd a e T)
theorem Vs.failu{S T:CSt}(h:Vs S T)(b:Bool)(a e:Int):Vs S (failU b a e T):=h.trans (Zla b a e T)
theorem Vs.cond{S T U:CSt}{b:Bool}(h:Vs S T)(k:Vs S U):Vs S (bif b then T else U):=by cases b <;> assumption
theorem Zbe(F n:Nd)(S:CSt):Vs S (pointerS F n S):=((Vs.refl S).failu _ _ _).cond (Vs.refl S)
theorem Jo(F n:Nd)(S:CSt):Vs S (localS F n S):=(Zbe F n S).failu _ _ _
theorem Xba(s:List UInt8)(y:Ty)(a:Int)(S:CSt):Vp S (declS s y a S) :=
 ⟨⟨[⟨s,y,declN S,S.level,S.scope⟩],rfl,fun v hv=>by rw [Bpa.1 hv]⟩,(Qg (!dupV S s) a 6 S).2.1⟩
theorem Jvc{sc:Nat}{vs l:List Vr}(h1:∀ v∈l,v.scope=sc)(h2:∀ v∈vs,v.scope<sc):dropV sc (vs++l)=vs:=by
 unfold dropV;rw [Cea]
 have e:∀ (a b:List Vr),(∀ v∈a,v.scope=sc)→(∀ v∈b,v.scope<sc)→(a++b).dropWhile (fun v=>decide (v.scope=sc))=b:=by
  intro a b ha hb
  induction a with
  | nil =>
   cases b with
   | nil=>rfl
   | cons x b=>rw [List.nil_append,List.dropWhile_cons_of_neg];have:=hb x Ava;simp;omega
  | cons x a ih=>rw [List.cons_append,List.dropWhile_cons_of_pos (by simp [ha x Ava])];exact ih fun v hv=>ha v (Aoa _ hv)
 rw [e l.reverse vs.reverse (fun v hv=>h1 v (Aua.1 hv)) (fun v hv=>h2 v (Aua.1 hv)),List.reverse_reverse]
theorem Vsd{S T:CSt}(hs:Sc S)(h:Vp (openS S) T):Vs S (shutS T):=by
 obtain ⟨l,h1,h2⟩:=h.vars;have hsc:T.scope=S.scope+1:=h.scope;refine ⟨?_,by show T.scope-1=_;omega⟩;show dropV T.scope T.vars=S.vars;rw [h1,hsc];exact Jvc h2 fun v hv=>Nat.lt_succ_of_le (hs v hv)
theorem Uua{S:CSt}(h:Sc S):Sc (openS S):=fun v hv=>Nat.le_succ_of_le (h v hv)
theorem Veg{S T:CSt}(h:Vs (litS S) T):Vs S { T with level:=T.level-1,result:=S.result }:=⟨h.vars,h.scope⟩
structure CkV (c:Ck):Prop where
  ex:∀ S,Sc S→Vs S (c.ex S).2
  mem:∀ S,Sc S→Vs S (c.mem S).2
  cal:∀ S,Sc S→Vs S (c.cal S).2
  st:∀ S,Sc S→Vp S (c.st S).2
  blk:∀ S,Sc S→Vs S (c.blk S).2
  ifs:∀ S,Sc S→Vs S (c.ifs S).2
  sts:∀ S,Sc S→Vp S (c.sts S).2
  cas:∀ f S,Sc S→Vs S (c.cas f S).2
theorem Xtg:CkV ck0:=⟨fun S _=>Vs.refl S,fun S _=>Vs.refl S,fun S _=>Vs.refl S,fun S _=>(Vs.refl S).vp,fun S _=>Vs.refl S,fun S _=>Vs.refl S,fun S _=>(Vs.refl S).vp,fun _ S _=>Vs.refl S⟩
section
variable {F t:Nd} {x:Nat→Ck}
theorem Vs.ex(X:∀ i,CkV (x i)){S T:CSt}(h:Vs S T)(hs:Sc S)(i:Nat):Vs S ((x i).ex T).2:=h.trans ((X i).ex T (h.sc hs))
theorem Vs.blk(X:∀ i,CkV (x i)){S T:CSt}(h:Vs S T)(hs:Sc S)(i:Nat):Vs S ((x i).blk T).2:=h.trans ((X i).blk T (h.sc hs))
theorem Yvf(X:∀ i,CkV (x i)){S:CSt}(hs:Sc S):Vs S (memR F t x S).2:=by
 have h:=Vs.ex X (Vs.refl S) hs 0;unfold memR;dsimp only;cases decide (((x 0).ex S).1.ty.kind=4);exact h.fail _ _;simp only [Zfh];split;exact h;exact h.fail _ _
theorem Zce(X:∀ i,CkV (x i))(ps:List Ty){S T:CSt}(hs:Sc S)(h:Vs S T):∀ i,Vs S (argA t x ps T i).2
 | 0=>h
 | i+1=>(Vs.ex X (Zce X ps hs h i) hs (i+1)).failu _ _ _
theorem Jvf(X:∀ i,CkV (x i)){S:CSt}(hs:Sc S):Vs S (callR t x S).2:=Zce X _ hs (((X 0).cal S hs).failu _ _ _) _
theorem Jwf(X:∀ i,CkV (x i)){S:CSt}(hs:Sc S):Vs S (litR t x S).2:=Veg ((X 0).blk (litS S) hs)
theorem vs_op(X:∀ i,CkV (x i)){S:CSt}(hs:Sc S):Vs S (opR t x S).2:=by
 have h:=Vs.ex X (Vs.refl S) hs 0;unfold opR;dsimp only [wantS];repeat' (first|(generalize decide (t.kind=_)=q;cases q <;> simp only [Zfh,Zeh]))
 all_goals first
  | exact (Vs.ex X (h.failu _ _ _) hs 1).failu _ _ _
  | exact (Vs.ex X h hs 1).failu _ _ _
  | exact h.failu _ _ _
  | exact h
theorem Zde(X:∀ i,CkV (x i)){S:CSt}(hs:Sc S):Vs S (exR F t x S).2:=by
 unfold exR;cases decide (t.kind=24);case true=>exact Vs.refl S
 cases decide (t.kind=25);case true=>exact Vs.refl S
 cases decide (t.kind=26);case true=>exact Vs.refl S
 cases decide (t.kind=38);case true=>exact Jwf X hs
 cases decide (t.kind=30);case true=>exact Jvf X hs
 cases decide (t.kind=27);case true=>exact ((Vs.refl S).failu _ _ _).cond ((Vs.refl S).fail _ _)
 cases decide (t.kind=28);case true=>exact (Yvf X hs).failu _ _ _
 cases decide (t.kind=34);case true=>exact (Vs.refl S).failu _ _ _
 exact vs_op X hs
theorem Vfg(X:∀ i,CkV (x i)){S:CSt}(hs:Sc S):Vs S (calR F t x S).2:=by
 unfold calR;dsimp only;cases decide (t.kind=28)&&((x 0).rcv S).2;simp only [Zeh];cases decide (t.kind=27)&&((lookR F S t).2&&decide ((lookR F S t).1.ref=3));exact (Zde X hs).failu _ _ _;exact Vs.refl S;refine Vs.failu ?_ _ _ _;unfold rcvX;cases decide ((Za t 0).kind=28);exact Vs.refl S;exact (X 0).mem S hs
theorem Xcd(X:∀ i,CkV (x i)){S:CSt}(hs:Sc S):∀ i,Vp S (stA x S i).2
 | 0=>(Vs.refl S).vp
 | i+1=>(Xcd X hs i).trans ((X i).st _ ((Xcd X hs i).sc hs))
theorem Ywf(X:∀ i,CkV (x i)){S:CSt}(hs:Sc S):Vp S (stsR t x S).2:=Xcd X hs _
theorem Qtb(X:∀ i,CkV (x i)){S:CSt}(hs:Sc S):Vs S (blkR t x S).2:=Vsd hs (Ywf X (Uua hs))
theorem Xoe(X:∀ i,CkV (x i))(k:Nd){S:CSt}(hs:Sc S):Vs S (condR k (x 0) S).2:=by
 unfold condR;cases decide (k.kind=9);exact ((X 0).ex S hs).failu _ _ _;exact Vs.refl S
theorem Vtd(X:∀ i,CkV (x i)){S:CSt}(hs:Sc S):Vs S (ifR t x S).2:=by
 have h1:Vs S ((x 1).blk (condR (Za t 0) (x 0) S).2).2:=Vs.blk X (Xoe X _ hs) hs 1;unfold ifR;dsimp only;cases decide ((Za t 2).kind=10);cases decide ((Za t 2).kind=18);exact h1;exact h1.trans ((X 2).ifs _ (h1.sc hs));exact h1.trans ((X 2).blk _ (h1.sc hs))
theorem Xdd(X:∀ i,CkV (x i)){S:CSt}(hs:Sc S):Vs S (asgR t x S).2:=(Vs.ex X ((Vs.ex X (Vs.refl S) hs 0).failu _ _ _) hs 1).failu _ _ _
theorem Zee(X:∀ i,CkV (x i))(f:Bool){S:CSt}(hs:Sc S):Vs S (casR t x f S).2:=by
 have h:Vp (openS S) (bif decide ((Za t 0).kind=9) then (clnT (Za t 0),failU f t.pos 6 (openS S)) else (x 0).st (openS S)).2:=by
  cases decide ((Za t 0).kind=9);exact (X 0).st _ (Uua hs);exact ((Vs.refl _).failu _ _ _).vp
 exact Vsd hs (h.trans ((X 1).sts _ (h.sc (Uua hs))))
theorem Yxb(X:∀ i,CkV (x i)){S:CSt}(hs:Sc S):∀ i,Vs S (selA t x S i).2.2
 | 0=>Vs.refl S
 | i+1=>(Yxb X hs i).trans ((X i).cas _ _ ((Yxb X hs i).sc hs))
theorem Vgg(X:∀ i,CkV (x i)){S:CSt}(hs:Sc S):Vp S (varR F t x S).2:=by
 unfold varR;dsimp only;cases decide ((Za t 1).kind=9);exact ((Vs.ex X (Jo F _ S) hs 1).failu _ _ _).vp.trans (Xba _ _ _ _);exact (Jo F _ S).vp.trans (Xba _ _ _ _)
theorem Vhg(X:∀ i,CkV (x i)){S:CSt}(hs:Sc S):Vp S (defR t x S).2:=(((X 0).ex S hs).failu _ _ _).vp.trans (Xba _ _ _ _)
theorem Xed(X:∀ i,CkV (x i)){S:CSt}(hs:Sc S):Vs S (forR t x S).2:=Vs.blk X (Xoe X _ hs) hs 1
theorem Xfd(X:∀ i,CkV (x i)){S:CSt}(hs:Sc S):Vs S (retR t x S).2:=by
 unfold retR;dsimp only;cases decide ((t.kids.length:Int)=1);exact (Vs.refl S).failu _ _ _;exact (Vs.ex X ((Vs.refl S).failu _ _ _) hs 0).failu _ _ _
theorem Vig(X:∀ i,CkV (x i)){S:CSt}(hs:Sc S):Vp S (stR F t x S).2:=by
 unfold stR;dsimp only;cases decide (t.kind=10);case true=>exact (Qtb X hs).vp
 cases decide (t.kind=18);case true=>exact (Vtd X hs).vp
 cases decide (t.kind=12);case true=>exact (Xdd X hs).vp
 cases decide (t.kind=22);case true=>exact (Yxb X hs _).vp
 cases decide (t.kind=6);case true=>exact Vgg X hs
 cases decide (t.kind=11);case true=>exact Vhg X hs
 cases decide (t.kind=19);case true=>exact (Xed X hs).vp
 cases decide (t.kind=20);case true=>exact (Xfd X hs).vp
 have h:=(X 0).ex S hs;simp only [Zeh,wantS];cases decide (t.kind=16);case true=>exact ((Vs.ex X (h.failu _ _ _) hs 1).failu _ _ _).vp
 cases decide (t.kind=17);case true=>exact (h.failu _ _ _).vp
 cases decide (t.kind=21);case true=>exact (h.failu _ _ _).vp
 exact h.vp
theorem ckv_f(X:∀ i,CkV (x i)):CkV (ckF F t x) :=
 ⟨fun S h=>Zde X h,fun S h=>Yvf X h,fun S h=>Vfg X h,fun S h=>Vig X h,fun S h=>Qtb X h,fun S h=>Vtd X h,fun S h=>Ywf X h,fun f S h=>Zee X f h⟩
end
theorem Jma(F:Nd):∀ t,CkV (ckT F t):=by
 refine Nd.ind fun t ih=>?_;rw [Vm];refine ckv_f fun i=>?_;by_cases h:i<t.kids.length;rw [Xx h,Yj h];exact ih _ (Afa h);rw [ckX];simp only [Aga,Ana];rw [Aka O];exact Xtg
theorem Ywa(F t:Nd)(i:Nat):CkV (ckX F t i):=by
 by_cases h:i<t.kids.length;rw [Xx h];exact Jma F _;rw [ckX];simp only [Aga,Ana];rw [Aka O];exact Xtg
def Ln(S:CSt):Prop:=S.level<S.next.length
structure Nl (S T:CSt):Prop where
  lv:T.level=S.level
  nx:∀ i,i<S.level→T.next[i]? = S.next[i]?
  ln:S.level<T.next.length
structure Nq (S T:CSt):Prop where
  lv:T.level=S.level
  nx:∀ i,i≤S.level→T.next[i]? = S.next[i]?
  ln:S.level<T.next.length
theorem Nq.refl{S:CSt}(h:Ln S):Nq S S:=⟨rfl,fun _ _=>rfl,h⟩
theorem Nq.nl{S T:CSt}(h:Nq S T):Nl S T:=⟨h.lv,fun i hi=>h.nx i (Nat.le_of_lt hi),h.ln⟩
theorem Nq.l{S T:CSt}(h:Nq S T):Ln T:=by have:=h.ln;unfold Ln;rw [h.lv];exact this
theorem Nl.l{S T:CSt}(h:Nl S T):Ln T:=by have:=h.ln;unfold Ln;rw [h.lv];exact this
theorem Nq.trans{S T U:CSt}(h:Nq S T)(k:Nq T U):Nq S U:=⟨k.lv.trans h.lv,fun i hi=>(k.nx i (h.lv▸hi)).trans (h.nx i hi),h.lv▸k.ln⟩
theorem Nl.trans{S T U:CSt}(h:Nl S T)(k:Nl T U):Nl S U:=⟨k.lv.trans h.lv,fun i hi=>(k.nx i (h.lv▸hi)).trans (h.nx i hi),h.lv▸k.ln⟩
theorem Yxf{S T:CSt}(h:Ln S)(h3:T.level=S.level)(h4:T.next=S.next):Nq S T:=⟨h3,fun i _=>by rw [h4],by rw [h4];exact h⟩
theorem Nq.fail{S T:CSt}(h:Nq S T)(a e:Int):Nq S (failS a e T):=h.trans (Yxf h.l (Jb a e T).2.2.1 (Jb a e T).2.2.2.1)
theorem Nq.failu{S T:CSt}(h:Nq S T)(b:Bool)(a e:Int):Nq S (failU b a e T):=h.trans (Yxf h.l (Qg b a e T).2.2.1 (Qg b a e T).2.2.2.1)
theorem Nl.failu{S T:CSt}(h:Nl S T)(b:Bool)(a e:Int):Nl S (failU b a e T):=h.trans (Yxf h.l (Qg b a e T).2.2.1 (Qg b a e T).2.2.2.1).nl
theorem Nq.cond{S T U:CSt}{b:Bool}(h:Nq S T)(k:Nq S U):Nq S (bif b then T else U):=by cases b <;> assumption
theorem Ufc(F n:Nd){S:CSt}(h:Ln S):Nq S (localS F n S):=(((Nq.refl h).failu _ _ _).cond (Nq.refl h)).failu _ _ _
theorem Xgd(s:List UInt8)(y:Ty)(a:Int){S:CSt}(h:Ln S):Nl S (declS s y a S):=by
 refine ⟨(Qg (!dupV S s) a 6 S).2.2.1,fun i hi=>?_,?_⟩;show (S.next.set S.level (declN S+1))[i]? = _;rw [Awa O];show S.level<(S.next.set _ _).length;rw [Bra];exact h
theorem Vud{S T:CSt}(h:Nl (openS S) T):Nl S (shutS T):=⟨h.lv,h.nx,h.ln⟩
theorem Vjg{S:CSt}(h:Ln S):Ln (litS S):=by
 unfold Ln at h;show S.level+1<(S.next.take (S.level+1)++[0]).length;rw [Ama,Apa];simp only [Bsa,List.length_nil];omega
theorem Vkg{S T:CSt}(hs:Ln S)(h:Nl (litS S) T):Nq S { T with level:=T.level-1,result:=S.result }:=by
 have h1:T.level=S.level+1:=h.lv;have h3:S.level+1<T.next.length:=h.ln;refine ⟨by show T.level-1=_;omega,fun i hi=>?_,by show S.level<T.next.length;omega⟩;have h2:=h.nx i (show i<S.level+1 by omega);refine h2.trans ?_;show (S.next.take (S.level+1)++[0])[i]? = _;unfold Ln at hs;rw [Bda (by rw [Apa];omega),List.getElem?_take_of_lt O]
structure CkN (c:Ck):Prop where
  ex:∀ S,Ln S→Nq S (c.ex S).2
  mem:∀ S,Ln S→Nq S (c.mem S).2
  cal:∀ S,Ln S→Nq S (c.cal S).2
  st:∀ S,Ln S→Nl S (c.st S).2
  blk:∀ S,Ln S→Nl S (c.blk S).2
  ifs:∀ S,Ln S→Nl S (c.ifs S).2
  sts:∀ S,Ln S→Nl S (c.sts S).2
  cas:∀ f S,Ln S→Nl S (c.cas f S).2
theorem ckn_0:CkN ck0:=⟨fun S h=>Nq.refl h,fun S h=>Nq.refl h,fun S h=>Nq.refl h,fun S h=>(Nq.refl h).nl,fun S h=>(Nq.refl h).nl,fun S h=>(Nq.refl h).nl,fun S h=>(Nq.refl h).nl,fun _ S h=>(Nq.refl h).nl⟩
section
variable {F t:Nd} {x:Nat→Ck}
theorem Nq.ex(X:∀ i,CkN (x i)){S T:CSt}(h:Nq S T)(i:Nat):Nq S ((x i).ex T).2:=h.trans ((X i).ex T h.l)
theorem Nl.ex(X:∀ i,CkN (x i)){S T:CSt}(h:Nl S T)(i:Nat):Nl S ((x i).ex T).2:=h.trans ((X i).ex T h.l).nl
theorem Nl.blk(X:∀ i,CkN (x i)){S T:CSt}(h:Nl S T)(i:Nat):Nl S ((x i).blk T).2:=h.trans ((X i).blk T h.l)
theorem Yyf(X:∀ i,CkN (x i)){S:CSt}(hs:Ln S):Nq S (memR F t x S).2:=by
 have h:=Nq.ex X (Nq.refl hs) 0;unfold memR;dsimp only;cases decide (((x 0).ex S).1.ty.kind=4);exact h.fail _ _;simp only [Zfh];split;exact h;exact h.fail _ _
theorem Yzf(X:∀ i,CkN (x i))(ps:List Ty){S T:CSt}(h:Nq S T):∀ i,Nq S (argA t x ps T i).2
 | 0=>h
 | i+1=>(Nq.ex X (Yzf X ps h i) (i+1)).failu _ _ _
theorem Jxf(X:∀ i,CkN (x i)){S:CSt}(hs:Ln S):Nq S (callR t x S).2:=Yzf X _ (((X 0).cal S hs).failu _ _ _) _
theorem Jyf(X:∀ i,CkN (x i)){S:CSt}(hs:Ln S):Nq S (litR t x S).2:=Vkg hs ((X 0).blk (litS S) (Vjg hs))
theorem nq_op(X:∀ i,CkN (x i)){S:CSt}(hs:Ln S):Nq S (opR t x S).2:=by
 have h:=Nq.ex X (Nq.refl hs) 0;unfold opR;dsimp only [wantS];repeat' (first|(generalize decide (t.kind=_)=q;cases q <;> simp only [Zfh,Zeh]))
 all_goals first
  | exact (Nq.ex X (h.failu _ _ _) 1).failu _ _ _
  | exact (Nq.ex X h 1).failu _ _ _
  | exact h.failu _ _ _
  | exact h
theorem Xaf(X:∀ i,CkN (x i)){S:CSt}(hs:Ln S):Nq S (exR F t x S).2:=by
 unfold exR;cases decide (t.kind=24);case true=>exact Nq.refl hs
 cases decide (t.kind=25);case true=>exact Nq.refl hs
 cases decide (t.kind=26);case true=>exact Nq.refl hs
 cases decide (t.kind=38);case true=>exact Jyf X hs
 cases decide (t.kind=30);case true=>exact Jxf X hs
 cases decide (t.kind=27);case true=>exact ((Nq.refl hs).failu _ _ _).cond ((Nq.refl hs).fail _ _)
 cases decide (t.kind=28);case true=>exact (Yyf X hs).failu _ _ _
 cases decide (t.kind=34);case true=>exact (Nq.refl hs).failu _ _ _
 exact nq_op X hs
theorem Vlg(X:∀ i,CkN (x i)){S:CSt}(hs:Ln S):Nq S (calR F t x S).2:=by
 unfold calR;dsimp only;cases decide (t.kind=28)&&((x 0).rcv S).2;simp only [Zeh];cases decide (t.kind=27)&&((lookR F S t).2&&decide ((lookR F S t).1.ref=3));exact (Xaf X hs).failu _ _ _;exact Nq.refl hs;refine Nq.failu ?_ _ _ _;unfold rcvX;cases decide ((Za t 0).kind=28);exact Nq.refl hs;exact (X 0).mem S hs
theorem Zfe(X:∀ i,CkN (x i)){S:CSt}(hs:Ln S):∀ i,Nl S (stA x S i).2
 | 0=>(Nq.refl hs).nl
 | i+1=>(Zfe X hs i).trans ((X i).st _ (Zfe X hs i).l)
theorem Xbf(X:∀ i,CkN (x i)){S:CSt}(hs:Ln S):Nl S (stsR t x S).2:=Zfe X hs _
theorem Xcf(X:∀ i,CkN (x i)){S:CSt}(hs:Ln S):Nl S (blkR t x S).2:=Vud (Xbf X (S:=openS S) hs)
theorem Xpe(X:∀ i,CkN (x i))(k:Nd){S:CSt}(hs:Ln S):Nq S (condR k (x 0) S).2:=by
 unfold condR;cases decide (k.kind=9);exact ((X 0).ex S hs).failu _ _ _;exact Nq.refl hs
theorem Xug(X:∀ i,CkN (x i)){S:CSt}(hs:Ln S):Nl S (ifR t x S).2:=by
 have h1:Nl S ((x 1).blk (condR (Za t 0) (x 0) S).2).2:=Nl.blk X (Xpe X _ hs).nl 1;unfold ifR;dsimp only;cases decide ((Za t 2).kind=10);cases decide ((Za t 2).kind=18);exact h1;exact h1.trans ((X 2).ifs _ h1.l);exact h1.trans ((X 2).blk _ h1.l)
theorem Vmg(X:∀ i,CkN (x i)){S:CSt}(hs:Ln S):Nq S (asgR t x S).2:=(Nq.ex X ((Nq.ex X (Nq.refl hs) 0).failu _ _ _) 1).failu _ _ _
theorem Vng(X:∀ i,CkN (x i))(f:Bool){S:CSt}(hs:Ln S):Nl S (casR t x f S).2:=by
 have h:Nl (openS S) (bif decide ((Za t 0).kind=9) then (clnT (Za t 0),failU f t.pos 6 (openS S)) else (x 0).st (openS S)).2:=by
  cases decide ((Za t 0).kind=9);exact (X 0).st _ hs;exact ((Nq.refl (S:=openS S) hs).failu f t.pos 6).nl
 exact Vud (h.trans ((X 1).sts _ h.l))
theorem Xhd(X:∀ i,CkN (x i)){S:CSt}(hs:Ln S):∀ i,Nl S (selA t x S i).2.2
 | 0=>(Nq.refl hs).nl
 | i+1=>(Xhd X hs i).trans ((X i).cas _ _ (Xhd X hs i).l)
theorem Vog(X:∀ i,CkN (x i)){S:CSt}(hs:Ln S):Nl S (varR F t x S).2:=by
 unfold varR;dsimp only;cases decide ((Za t 1).kind=9);have h:=(Nq.ex X (Ufc F (Za t 0) hs) 1).failu (Vg (ofF (Za t 0)).1 ((x 1).ex (localS F (Za t 0) S)).1.ty) (Za t 1).pos 7;exact h.nl.trans (Xgd _ _ _ h.l);exact (Ufc F _ hs).nl.trans (Xgd _ _ _ (Ufc F _ hs).l)
theorem Vpg(X:∀ i,CkN (x i)){S:CSt}(hs:Ln S):Nl S (defR t x S).2:=by
 have h:=((X 0).ex S hs).failu (Vl ((x 0).ex S).1.ty) (Za t 0).pos 7;exact h.nl.trans (Xgd _ _ _ h.l)
theorem Vqg(X:∀ i,CkN (x i)){S:CSt}(hs:Ln S):Nl S (forR t x S).2:=Nl.blk X (Xpe X _ hs).nl 1
theorem Vrg(X:∀ i,CkN (x i)){S:CSt}(hs:Ln S):Nq S (retR t x S).2:=by
 unfold retR;dsimp only;cases decide ((t.kids.length:Int)=1);exact (Nq.refl hs).failu _ _ _;exact (Nq.ex X ((Nq.refl hs).failu _ _ _) 0).failu _ _ _
theorem Vsg(X:∀ i,CkN (x i)){S:CSt}(hs:Ln S):Nl S (stR F t x S).2:=by
 unfold stR;dsimp only;cases decide (t.kind=10);case true=>exact Xcf X hs
 cases decide (t.kind=18);case true=>exact Xug X hs
 cases decide (t.kind=12);case true=>exact (Vmg X hs).nl
 cases decide (t.kind=22);case true=>exact Xhd X hs _
 cases decide (t.kind=6);case true=>exact Vog X hs
 cases decide (t.kind=11);case true=>exact Vpg X hs
 cases decide (t.kind=19);case true=>exact Vqg X hs
 cases decide (t.kind=20);case true=>exact (Vrg X hs).nl
 have h:=(X 0).ex S hs;simp only [Zeh,wantS];cases decide (t.kind=16);case true=>exact ((Nq.ex X (h.failu _ _ _) 1).failu _ _ _).nl
 cases decide (t.kind=17);case true=>exact (h.failu _ _ _).nl
 cases decide (t.kind=21);case true=>exact (h.failu _ _ _).nl
 exact h.nl
theorem ckn_f(X:∀ i,CkN (x i)):CkN (ckF F t x) :=
 ⟨fun S h=>Xaf X h,fun S h=>Yyf X h,fun S h=>Vlg X h,fun S h=>Vsg X h,fun S h=>Xcf X h,fun S h=>Xug X h,fun S h=>Xbf X h,fun f S h=>Vng X f h⟩
end
theorem ckn_t(F:Nd):∀ t,CkN (ckT F t):=by
 refine Nd.ind fun t ih=>?_;rw [Vm];refine ckn_f fun i=>?_;by_cases h:i<t.kids.length;rw [Xx h,Yj h];exact ih _ (Afa h);rw [ckX];simp only [Aga,Ana];rw [Aka O];exact ckn_0
def Can(y:Ty):Prop:=y.kind=4∨y.name=[]
def CanV(S:CSt):Prop:=∀ v∈S.vars,Can v.typ
theorem Jna:Can ty0:=.inr rfl
theorem Yxc(t:Nd):Can (ofF t).1:=by
 unfold ofF;cases !Jla t;case true=>exact Jna
 cases decide (t.kind=9);case true=>exact Jna
 cases decide (t.kind=8)
 case true =>
  cases nameB t.text;exact Jna;exact .inl rfl
 cases decide (t.kind=7)
 case true =>
  cases Vt t.text;exact Jna;exact .inr rfl
 exact Jna
theorem Ugc{α β:Type}{f:α→Option β}:∀ (l:List α) (r:List β),mapO f l=some r→∀ y∈r,∃ x∈l,f x=some y
 | [],r,h,y,hy=>by injection h with h;subst h;cases hy
 | x::l,r,h,y,hy=>by
  rw [mapO] at h
  cases h1:f x with
  | none=>rw [h1] at h;cases h
  | some b =>
   cases h2:mapO f l with
   | none=>rw [h1,h2] at h;cases h
   | some r' =>
    rw [h1,h2] at h;injection h with h;subst h;rcases Bea.1 hy with q|q;subst q;exact ⟨x,Ava,h1⟩;obtain ⟨z,hz,e⟩:=Ugc l r' h2 y q;exact ⟨z,Aoa _ hz,e⟩
theorem Zge(F:Nd)(s:List UInt8):∀ f∈(Ug F s).1,Can f.ty:=by
 unfold Ug;split;intro f hf;cases hf;split;intro f hf;cases hf;rename_i l hl;intro f hf;obtain ⟨d,_,e⟩:=Ugc _ _ hl f hf;unfold Zka at e;cases hq:(!decide (d.kind=3) || !decide ((d.kids.length:Int)=1));rw [hq] at e;cases h2:(ofF (kid0 d)).2;rw [h2] at e;cases e;rw [h2] at e;injection e with e;subst e;exact Yxc _;rw [hq] at e;cases e
theorem Jzf(op:List UInt8)(a b:Ty):Can (binT op a b).1:=by
 unfold binT;repeat' (first|exact .inr rfl|(split)|(cases anyS _ op <;> simp only [Zfh,Zeh])|(cases (tyEqB _ _&&tyEqB _ _) <;> simp only [Zfh,Zeh])|(cases compB a b <;> simp only [Zfh,Zeh]))
theorem Xdf{q:Bool}{a b:Ty}(ha:Can a)(hb:Can b):Can (bif q then a else b):=by cases q <;> assumption
theorem Zag{q:Bool}{a b:List Ty×Ty×Bool}(ha:Can a.2.1)(hb:Can b.2.1):Can (bif q then a else b).2.1:=by cases q <;> assumption
theorem Zbg(y:Ty)(s:List UInt8):Can (mthF y s).2.1:=by
 unfold mthF;repeat' (first|exact .inr rfl|refine Zag ?_ ?_)
theorem Zcg(d:Nd):Can (fncTy d):=Xdf (.inr rfl) (.inr rfl)
theorem Vvd(F:Nd){S:CSt}(hs:CanV S)(n:Nd):Can (lookR F S n).1.ty:=by
 unfold lookR
 cases h:findV S.vars n.text with
 | some v =>
  have hm:v∈S.vars:=Aua.1 (Bta h);exact hs v hm
 | none =>
  dsimp only;cases decide (0≤(findD F 6 n.text).2);cases decide (0≤(findD F 4 n.text).2);exact Jna;exact Zcg _;exact Yxc _
structure CkQ' (c:Ck):Prop where
  ex:∀ S,Sc S→CanV S→Can (c.ex S).1.ty
  mem:∀ S,Sc S→CanV S→Can (c.mem S).1.1.ty
  rcv:∀ S,Sc S→CanV S→Can (c.rcv S).1.ty
  cal:∀ S,Sc S→CanV S→Can (c.cal S).1.2.2
  st:∀ S,Sc S→CanV S→CanV (c.st S).2
theorem ckc_0:CkQ' ck0:=⟨fun S _ _=>Jna,fun S _ _=>Jna,fun S _ _=>Jna,fun S _ _=>Jna,fun S _ h=>h⟩
theorem Vs.can{S T:CSt}(h:Vs S T)(k:CanV S):CanV T:=fun v hv=>k v (h.vars▸hv)
theorem Zfc(s:List UInt8){y:Ty}(a:Int){S:CSt}(h:CanV S)(hy:Can y):CanV (declS s y a S):=fun v hv=>by
 have hv:v∈S.vars++[⟨s,y,declN S,S.level,S.scope⟩]:=hv;rcases Ata.1 hv with q|q;exact h v q;rw [Bpa.1 q];exact hy
section
variable {F t:Nd} {x:Nat→Ck}
theorem Xid(X:∀ i,CkQ' (x i)){S:CSt}(hs:Sc S)(hc:CanV S):Can (memR F t x S).1.1.ty:=by
 unfold memR;dsimp only;cases decide (((x 0).ex S).1.ty.kind=4);exact Jna;simp only [Zfh];split;rename_i f hf;exact Zge F _ f (Bta hf);exact Jna
theorem Zdg(X:∀ i,CkQ' (x i)){S:CSt}(hs:Sc S)(hc:CanV S):Can (rcvR F t x S).1.ty:=by
 unfold rcvR;cases decide (t.kind=27);cases decide (t.kind=28);exact Jna;exact Xid X hs hc;exact Vvd F hc t
theorem Vtg:Can (unTy t):=Xdf (.inr rfl) (.inr rfl)
theorem Vug(X:∀ i,CkQ' (x i)){S:CSt}(hs:Sc S)(hc:CanV S):Can (opR t x S).1.ty:=by
 unfold opR;dsimp only;repeat' (first|exact .inr rfl|exact Vtg|exact Jzf _ _ _|(generalize decide (t.kind=_)=q;cases q <;> simp only [Zfh,Zeh]))
theorem Zeg(X:∀ i,CkQ' (x i)){S:CSt}(hs:Sc S)(hc:CanV S):Can (exR F t x S).1.ty:=by
 unfold exR;cases decide (t.kind=24);case true=>exact .inr rfl
 cases decide (t.kind=25);case true=>exact .inr rfl
 cases decide (t.kind=26);case true=>exact .inr rfl
 cases decide (t.kind=38);case true=>exact .inr rfl
 cases decide (t.kind=30);case true=>exact (X 0).cal S hs hc
 cases decide (t.kind=27);case true=>exact Vvd F hc t
 cases decide (t.kind=28);case true=>exact Xid X hs hc
 cases decide (t.kind=34);case true=>exact .inl rfl
 exact Vug X hs hc
theorem Zfg(X:∀ i,CkQ' (x i)){S:CSt}(hs:Sc S)(hc:CanV S):Can (calR F t x S).1.2.2:=by
 unfold calR;dsimp only;cases decide (t.kind=28)&&((x 0).rcv S).2;simp only [Zeh];cases decide (t.kind=27)&&((lookR F S t).2&&decide ((lookR F S t).1.ref=3));exact Jna;exact Yxc _;exact Zbg _ _
theorem Zgg(V:∀ i,CkV (x i))(X:∀ i,CkQ' (x i))(HS:∀ S,Sc S→Vs S (exR F t x S).2){S:CSt}(hs:Sc S)(hc:CanV S):CanV (stR F t x S).2:=by
 unfold stR;dsimp only;cases decide (t.kind=10);case true=>exact (Qtb V hs).can hc
 cases decide (t.kind=18);case true=>exact (Vtd V hs).can hc
 cases decide (t.kind=12);case true=>exact (Xdd V hs).can hc
 cases decide (t.kind=22);case true=>exact (Yxb V hs _).can hc
 cases decide (t.kind=6)
 case true =>
  show CanV (varR F t x S).2;unfold varR;dsimp only;cases decide ((Za t 1).kind=9);exact Zfc _ _ (((Vs.ex V (Jo F _ S) hs 1).failu _ _ _).can hc) (Yxc _);exact Zfc _ _ ((Jo F _ S).can hc) (Yxc _)
 cases decide (t.kind=11);case true=>exact Zfc _ _ ((((V 0).ex S hs).failu _ _ _).can hc) ((X 0).ex S hs hc)
 cases decide (t.kind=19);case true=>exact (Xed V hs).can hc
 cases decide (t.kind=20);case true=>exact (Xfd V hs).can hc
 have h:=(V 0).ex S hs;simp only [Zeh,wantS];cases decide (t.kind=16);case true=>exact ((Vs.ex V (h.failu _ _ _) hs 1).failu _ _ _).can hc
 cases decide (t.kind=17);case true=>exact (h.failu _ _ _).can hc
 cases decide (t.kind=21);case true=>exact (h.failu _ _ _).can hc
 exact h.can hc
theorem ckc_f(V:∀ i,CkV (x i))(X:∀ i,CkQ' (x i)):CkQ' (ckF F t x) :=
 ⟨fun S h k=>Zeg X h k,fun S h k=>Xid X h k,fun S h k=>Zdg X h k,fun S h k=>Zfg X h k,fun S h k=>Zgg V X (fun S h=>Zde V h) h k⟩
end
theorem Uhc(F:Nd):∀ t,CkQ' (ckT F t):=by
 refine Nd.ind fun t ih=>?_;rw [Vm];refine ckc_f (fun i=>Ywa F t i) fun i=>?_;by_cases h:i<t.kids.length;rw [Xx h,Yj h];exact ih _ (Afa h);rw [ckX];simp only [Aga,Ana];rw [Aka O];exact ckc_0
theorem Qub{y:Ty}(h:Can y){k:Int}(hk:k≠4):tyEqB y ⟨k,[]⟩=decide (y.kind=k):=by
 unfold tyEqB;cases hq:decide (y.kind=k);rfl;have:=Zch hq;rcases h with h|h;omega;rw [h];rfl
def Er(S T:CSt):Prop:=S.ee≠0→T.ee=S.ee∧T.ea=S.ea
theorem Er.refl(S:CSt):Er S S:=fun _=>⟨rfl,rfl⟩
theorem Er.trans{S T U:CSt}(h:Er S T)(k:Er T U):Er S U:=fun hn=>by
 obtain ⟨a,b⟩:=h hn;obtain ⟨c,d⟩:=k (by rw [a];exact hn);exact ⟨c.trans a,d.trans b⟩
theorem Stp.e{d:Nat}{S T:CSt}(h:Stp d S T):Er S T:=h.ers
theorem Er.fail{S T:CSt}(h:Er S T)(a e:Int):Er S (failS a e T):=h.trans (Jsc a e T).e
theorem Er.failu{S T:CSt}(h:Er S T)(b:Bool)(a e:Int):Er S (failU b a e T):=h.trans (Jtc b a e T).e
theorem Er.if1{S T U:CSt}{q:Bool}(h:Er S T)(k:Er S U):Er S (bif q then T else U):=by cases q <;> assumption
theorem Er.if2{α:Type}{S:CSt}{q:Bool}{a b:α×CSt}(h:Er S a.2)(k:Er S b.2):Er S (bif q then a else b).2:=by cases q <;> assumption
section
variable {F t:Nd} {x:Nat→Ck}
theorem Er.ex(X:∀ i,CkS (x i) (cN t i)){S T:CSt}(h:Er S T)(i:Nat):Er S ((x i).ex T).2:=h.trans ((X i).ex T).e
theorem Er.blk(X:∀ i,CkS (x i) (cN t i)){S T:CSt}(h:Er S T)(i:Nat):Er S ((x i).blk T).2:=h.trans ((X i).blk T).e
theorem Er.sts(X:∀ i,CkS (x i) (cN t i)){S T:CSt}(h:Er S T)(i:Nat):Er S ((x i).sts T).2:=h.trans ((X i).sts T).e
theorem Er.st(X:∀ i,CkS (x i) (cN t i)){S T:CSt}(h:Er S T)(i:Nat):Er S ((x i).st T).2:=h.trans ((X i).st T).e
theorem Er.shut{S T:CSt}(h:Er S T):Er S (shutS T):=h
theorem Er.decl{S T:CSt}(h:Er S T)(s:List UInt8)(y:Ty)(a:Int):Er S (declS s y a T):=h.trans (Wrb s y a T).e
theorem Xef(S:CSt):Er ((x 0).ex S).2 (memR F t x S).2:=by
 unfold memR;dsimp only;cases decide (((x 0).ex S).1.ty.kind=4);exact (Er.refl _).fail _ _;simp only [Zfh];split;exact Er.refl _;exact (Er.refl _).fail _ _
theorem Uic(X:∀ i,CkS (x i) (cN t i))(ps:List Ty)(S:CSt)(i:Nat):∀ k,Er (argA t x ps S i).2 (argA t x ps S (i+k)).2
 | 0=>Er.refl _
 | k+1=>((Uic X ps S i k).ex X (i+k+1)).failu _ _ _
theorem Xff(X:∀ i,CkS (x i) (cN t i))(S:CSt)(i:Nat):∀ k,Er (stA x S i).2 (stA x S (i+k)).2
 | 0=>Er.refl _
 | k+1=>(Xff X S i k).st X (i+k)
theorem Xjd(X:∀ i,CkS (x i) (cN t i))(S:CSt)(i:Nat):∀ k,Er (selA t x S i).2.2 (selA t x S (i+k)).2.2
 | 0=>Er.refl _
 | k+1=>(Xjd X S i k).trans ((X (i+k)).cas _ _).e
end
theorem Xgf(F p:Nd)(S:CSt)(i:Nat):∀ k,Er (parA F p S i).2 (parA F p S (i+k)).2
 | 0=>Er.refl _
 | k+1=>((Xgf F p S i k).decl _ _ _).trans (Uza F _ _).e
theorem Xhf(F n:Nd)(S:CSt)(i:Nat):∀ k,Er (strA F n S i) (strA F n S (i+k))
 | 0=>Er.refl _
 | k+1=>((Xhf F n S i k).failu _ _ _).trans (Wqb F _ _).e
theorem Vvg(F n:Nd)(S:CSt):Er S (funR F n S).2:=by
 have h0:Er S (funS0 S):=fun _=>⟨rfl,rfl⟩;have h1:Er S (funS1 F n S):=(h0.trans (by have:=Xgf F (Za n 0) (funS0 S) 0 (Za n 0).kids.length;rwa [Bfa] at this):Er S (parA F (Za n 0) (funS0 S) (Za n 0).kids.length).2)
 have h2:Er S (funS2 F n S):=by
  unfold funS2;refine Er.if1 h1 ?_;exact (h1.trans (Uza F (Za n 1) _).e:Er S (localS F (Za n 1) (funS1 F n S)))
 exact (h2.trans ((Uh F (Za n 2)).sts _).e).failu _ _ _
theorem Vwg(F n:Nd)(S:CSt):Er S (dclR F n S).2:=by
 unfold dclR;refine Er.if2 (by have:=Xhf F n S 0 n.kids.length;rwa [Bfa] at this) (Er.if2 (Wqb F _ S).e (Er.if2 (Vvg F n S) (Er.refl S)))
theorem Xkd(F:Nd)(S:CSt)(i:Nat):∀ k,Er (dclA F S i).2 (dclA F S (i+k)).2
 | 0=>Er.refl _
 | k+1=>(Xkd F S i k).trans (Vwg F _ _)
theorem Xqe(F:Nd)(S:CSt):Er S (mainS F S):=by
 unfold mainS;exact Er.if1 ((Er.refl S).fail _ _) (Er.if1 ((Er.refl S).fail _ _) (Er.refl S))
/-! what a round may write; what lies between two rounds -/
structure GB (B:Nat→Prop) (w w':Aa):Prop where
  os:w'.os=w.os
  tape:w'.tape=w.tape
  output:w'.output=w.output
  size:w.heap.size≤w'.heap.size
  block:∀ k,k<w.heap.size→¬ B k→w'.heap[k]? = w.heap[k]?
theorem GB.refl(B:Nat→Prop)(w:Aa):GB B w w:=⟨rfl,rfl,rfl,Aqa _,fun _ _ _=>rfl⟩
theorem GB.trans{B:Nat→Prop}{a b c:Aa}(h:GB B a b)(k:GB B b c):GB B a c :=
 ⟨k.os.trans h.os,k.tape.trans h.tape,k.output.trans h.output,Aha h.size k.size,fun i hi hn=>(k.block i (Axa hi h.size) hn).trans (h.block i hi hn)⟩
theorem GB.mono{B B':Nat→Prop}{w w':Aa}(h:GB B w w')(hB:∀ k,k<w.heap.size→B k→B' k):GB B' w w':=⟨h.os,h.tape,h.output,h.size,fun k hk hn=>h.block k hk fun hb=>hn (hB k hk hb)⟩
theorem GB.of_g{B:Nat→Prop}{w w':Aa}(h:G w w'):GB B w w':=⟨h.os,h.tape,h.output,h.size,fun k hk _=>h.block hk⟩
theorem GB.g{B:Nat→Prop}{w w':Aa}(h:GB B w w')(hB:∀ k,B k→w.heap.size≤k):G w w':=⟨h.os,h.tape,h.output,h.size,fun k hk=>h.block k hk fun hb=>by have:=hB k hb;omega⟩
theorem Xre{B:Nat→Prop}{w0 w w':Aa}{b:Nat}(h:GB B w0 w)(hg:w.grownBy w' (some b))(hb:B b∨w0.heap.size≤b):GB B w0 w' :=
 ⟨hg.os.trans h.os,hg.tape.trans h.tape,hg.output.trans h.output,Aha h.size hg.size,fun k hk hn=>(hg.block k (Axa hk h.size) (fun e=>by
 injection e with e;subst e;rcases hb with hb|hb;exact hn hb;omega)).trans (h.block k hk hn)⟩
structure GI (n:Nat) (w w':Aa):Prop where
  below:Below n w w'
  cells:∀ (k:Nat) (o:Obj),w.heap[k]? = some o→o.isCells=true→w'.heap[k]? = some o
theorem GI.refl(n:Nat)(w:Aa):GI n w w:=⟨Below.refl _ _,fun _ _ h _=>h⟩
theorem GI.trans{n:Nat}{a b c:Aa}(h:GI n a b)(k:GI n b c):GI n a c:=⟨h.below.trans k.below,fun i o hi hc=>k.cells i o (h.cells i o hi hc) hc⟩
theorem GI.of_g{n:Nat}{a b:Aa}(h:G a b)(hn:n≤a.heap.size):GI n a b:=⟨Below.mono h hn,fun k o hk _=>(h.block (Array.getElem?_eq_some_iff.1 hk).1).trans hk⟩
theorem GI.mono{n m:Nat}{a b:Aa}(h:GI n a b)(hm:m≤n):GI m a b:=⟨h.below.mono hm,h.cells⟩
theorem GI.size{n:Nat}{a b:Aa}(h:GI n a b):a.heap.size≤b.heap.size:=h.below.size
theorem Blk.gb{w w':Aa}{B:Nat→Prop}{b:Nat}{e:Ba}{l:List Ga}(h:Blk w b e l)(g:GB B w w')(hb:¬ B b):Blk w' b e l:=(g.block b h.lt hb).trans h
theorem RowAt.gb{w w':Aa}{B:Nat→Prop}{b o:Nat}{l:List Ga}(h:RowAt w b o l)(g:GB B w w')(hb:¬ B b):RowAt w' b o l:=fun j v hj=>by
 have h1:=h j v hj;have hlt:=Ia w _ h1;exact (Ka (g.block b hlt hb)).trans h1
section
variable {P:Fa} {n:Nat} {ds:List Deferred} {N T:DPost} {X:List (Nat×DPost)} {Z:List Da→DPost} {σ:List Ent} {w:Aa}
@[reducible] def NoD:DPost:=fun _ _ _=>False
@[reducible] def NoZ:List Da→DPost:=fun _ _ _ _=>False
end
section
variable {P:Fa} {Z:List Da→Act→Aa→Prop} {ops:List Oper} {cl:List Nat} {lv:List Bool} {W0:Aa} {n:Nat} {K:Act→Aa→Prop} {k:Nat} {rest:List Oper} {σ:List Ent} {w:Aa} {d:Nat} {ty:Ba} {pos:String} {after:Array Edge}
end
/-! maps -/
def MapB(w:Aa)(b:Nat)(ks:List Ga):Prop:=∃ es clock,w.heap[b]? = some (.map es clock)∧es.toList.map (·.key)=ks∧∀ x∈es.toList,x.val = .bool true
section
variable {P:Fa} {w w':Aa} {b:Nat} {ks:List Ga}
theorem MapB.lt(h:MapB w b ks):b<w.heap.size:=by
 obtain ⟨es,c,hb,_⟩:=h;exact (Array.getElem?_eq_some_iff.1 hb).1
theorem MapB.grow(h:MapB w b ks)(g:G w w'):MapB w' b ks:=by
 have hl:=h.lt;obtain ⟨es,c,hb,hk⟩:=h;exact ⟨es,c,(g.block hl).trans hb,hk⟩
theorem MapB.keep(h:MapB w b ks){row:Option Nat}(hg:w.grownBy w' row)(hne:some b≠row):MapB w' b ks:=by
 have hl:=h.lt;obtain ⟨es,c,hb,hk⟩:=h;exact ⟨es,c,(hg.block b hl hne).trans hb,hk⟩
theorem MapB.gb{B:Nat→Prop}(h:MapB w b ks)(g:GB B w w')(hB:¬ B b):MapB w' b ks:=by
 have hl:=h.lt;obtain ⟨es,c,hb,hk⟩:=h;exact ⟨es,c,(g.block b hl hB).trans hb,hk⟩
theorem Xse(w:Aa)(o:Obj):G w (w.alloc o):=⟨rfl,rfl,rfl,by simp,fun k hk=>heap_alloc_old w o hk⟩
structure KeyT (P:Fa) (k:Ba) {α:Type} [BEq α] [LawfulBEq α] (f:α→Ga):Prop where
  check:∀ (w:Aa) (em:Bool) (a:α),(Instr.checkKey em 10000 k (f a)).run P w = .ok () w
  find:∀ (w:Aa) (a:α) (l:List α) (es:List MapEntry),es.map (·.key)=l.map f→∃ r,(Instr.findKey k (f a) es).run P w = .ok r w∧
    ((r=none∧a∉l)∨∃ j e,r=some (j,e.val)∧es[j]? = some e∧e.key=f a∧a∈l)
  stays:∀ (w:Aa) (a:α),(Instr.keyThatStays (f a) (f a)).run P w = .ok (f a) w
end
def MapS(w:Aa)(b:Nat)(es:List (List UInt8×Ga)):Prop:=∃ ms clock,w.heap[b]? = some (.map ms clock)∧ms.toList.map (fun x=>(x.key,x.val))=es.map fun p=>(Str p.1,p.2)
def lookS:List (List UInt8×Ga)→List UInt8→Option Ga
 | [],_=>none
 | (k,v)::es,a=>bif decide (k=a) then some v else lookS es a
section
variable {P:Fa} {w w':Aa} {b:Nat} {es:List (List UInt8×Ga)}
theorem MapS.lt(h:MapS w b es):b<w.heap.size:=by
 obtain ⟨ms,c,hb,_⟩:=h;exact (Array.getElem?_eq_some_iff.1 hb).1
theorem MapS.same(h:MapS w b es)(e:w'.heap[b]? = w.heap[b]?):MapS w' b es:=by
 obtain ⟨ms,c,hb,hk⟩:=h;exact ⟨ms,c,e.trans hb,hk⟩
theorem MapS.grow(h:MapS w b es)(g:G w w'):MapS w' b es:=h.same (g.block h.lt)
theorem MapS.keep(h:MapS w b es){row:Option Nat}(hg:w.grownBy w' row)(hne:some b≠row):MapS w' b es:=h.same (hg.block b h.lt hne)
theorem MapS.nblk(h:MapS w b es){j:Nat}{e:Ba}{l:List Ga}(hB:Blk w j e l):b≠j:=fun q=>by
 subst q;obtain ⟨ms,c,hb,_⟩:=h;unfold Blk at hB;rw [hb] at hB;injection hB with hB;cases hB
theorem Xif(w:Aa):MapS (w.alloc (.map #[] 0)) w.heap.size []:=⟨#[],0,(MapKept.heap_alloc w _).1,rfl⟩
theorem Wsb(a:List UInt8):∀ (ms:List MapEntry) (es:List (List UInt8×Ga)) (i:Nat),ms.map (fun x=>(x.key,x.val))=es.map (fun p=>(Str p.1,p.2))→
  (lookS es a=none∧Instr.findNow .string (Str a) ms i=some none)∨∃ v j,lookS es a=some v∧Instr.findNow .string (Str a) ms i=some (some (j,v))
 | [],es,i,h=>by
  cases es with
  | nil=>exact .inl ⟨rfl,rfl⟩
  | cons p es=>cases h
 | m::ms,es,i,h=>by
  cases es with
  | nil=>cases h
  | cons p es =>
   obtain ⟨k,v⟩:=p;rw [Bua,Bua] at h;injection h with h1 h2;injection h1 with h1 h3;have hs:Instr.sameNow .string (Str a) m.key=some ((⟨a.toArray⟩:ByteArray) == ⟨k.toArray⟩):=by rw [h1];rfl
   have hv:m.val=v:=h3;by_cases hk:k=a;subst hk;refine .inr ⟨v,i,by unfold lookS;rw [Jyg rfl];rfl,?_⟩;rw [(MapKept.bytes_beq _ _).2 rfl] at hs;rw [Instr.findNow,hs,hv]
   have hf:((⟨a.toArray⟩:ByteArray) == ⟨k.toArray⟩)=false:=by
    cases q:((⟨a.toArray⟩:ByteArray) == ⟨k.toArray⟩) with
    | false=>rfl
    | true =>
     have q:=(MapKept.bytes_beq _ _).1 q;injection q with q;exact absurd (by have:=congrArg Array.toList q;simpa using this.symm) hk
   rw [hf] at hs;have e:lookS ((k,v)::es) a=lookS es a:=by show (bif decide (k=a) then some v else lookS es a)=_;rw [Jxg hk];rfl
   rw [e,Instr.findNow,hs];exact Wsb a ms es (i+1) h2
theorem Jwc{k:Ba}(hk:P.underlying k=some .string)(em:Bool)(a:List UInt8)(w:Aa):(Instr.checkKey em 10000 k (Str a)).run P w = .ok () w:=by
 show (Instr.checkKey em (9999+1) k (Str a)).run P w=_;rw [Instr.checkKey];simp only [Sem.run_bind,run_underlying hk,Ha,Sem.run_pure]
theorem Xyc{k t e:Ba}(hk:P.underlying k=some .string)(ht:P.underlying t=some (.map k e)){z:Ga}(hz:zeroOf P e=some z)(h:MapS w b es)(a:List UInt8)(ok:Bool) :
 (Instr.lookup t (.map (some b)) (Str a) ok).run P w = .ok (bif ok then .tuple #[(lookS es a).getD z,.bool (lookS es a).isSome] else (lookS es a).getD z) w:=by
 obtain ⟨i,hi,hz'⟩:=Uwa hz;obtain ⟨ms,c,hb,hm⟩:=h;have hck:=Jwc (P:=P) hk ms.isEmpty a w;rcases Wsb a ms.toList es 0 hm with ⟨h1,h2⟩|⟨v,j,h1,h2⟩;cases ok <;> simp [Instr.lookup,run_underlying ht,MapKept.run_getObj_map hb,hck,Instr.findKey,run_underlying hk,h2,zeroValue,typeInfo,hi,hz',h1]
 cases ok <;> simp [Instr.lookup,run_underlying ht,MapKept.run_getObj_map hb,hck,Instr.findKey,run_underlying hk,h2,h1]
theorem Vwd{k t e:Ba}(hk:P.underlying k=some .string)(ht:P.underlying t=some (.map k e))(h:MapS w b es){a:List UInt8}(hn:lookS es a=none)(v:Ga) :
 ∃ w',(Instr.mapUpdate t (.map (some b)) (Str a) v).run P w = .ok () w'∧MapS w' b (es++[(a,v)])∧w.grownBy w' (some b)∧w'.heap.size=w.heap.size:=by
 obtain ⟨ms,c,hb,hm⟩:=h;have hck:=Jwc (P:=P) hk false a w;have hlt:=(Array.getElem?_eq_some_iff.1 hb).1;rcases Wsb a ms.toList es 0 hm with ⟨h1,h2⟩|⟨u,j,h1,h2⟩;refine ⟨{ w with heap:=w.heap.setIfInBounds b (.map (ms.push ⟨Str a,v,c⟩) (c+1)) },?_,?_,?_,by simp⟩;simp [Instr.mapUpdate,run_underlying ht,MapKept.run_getObj_map hb,hck,Instr.findKey,run_underlying hk,h2,MapKept.run_setObj_map _ hb];refine ⟨_,_,(by rw [Cfa,if_pos rfl,if_pos hlt]),?_⟩;rw [Array.toList_push,List.map_append,hm,List.map_append];rfl
 exact ⟨rfl,rfl,rfl,by simp,fun i _ hi=>by
  have hi:b≠i:=fun e=>hi (by rw [e]);show (w.heap.setIfInBounds b _)[i]? = _;rw [Cfa,if_neg hi]⟩
 rw [hn] at h1;cases h1
end
section
variable {P:Fa} {Z:List Da→Act→Aa→Prop} {ops:List Oper} {cl:List Nat} {lv:List Bool} {W0:Aa} {n:Nat} {K:Act→Aa→Prop} {k:Nat} {rest:List Oper} {σ:List Ent} {w:Aa} {d:Nat} {ty:Ba} {pos:String} {after:Array Edge} {es:List (List UInt8×Ga)}
theorem Ujc{c:Prop}{wb:Aa}{t kt e b:Nat}{x y:Ea}{a:List UInt8}{z:Ga}(hk:P.underlying kt=some .string)(ht:P.underlying t=some (.map kt e))(hz:zeroOf P e=some z)(h:MapS wb b es)(hx:Ev n σ c x (.map (some b)))(hy:Ev n σ c y (Str a)) :
 Rd P n σ c wb (.lookup t x y false) ty ((lookS es a).getD z):=.mk fun d pos after gd act ha hc w1 hg=>by
 have r:=Xyc hk ht hz (h.grow hg) a false;simp [execOp,hx act ha hc,hy act ha hc,r]
theorem Jxc{c:Prop}{wb:Aa}{t kt e b:Nat}{x y:Ea}{a:List UInt8}{z:Ga}(hk:P.underlying kt=some .string)(ht:P.underlying t=some (.map kt e))(hz:zeroOf P e=some z)(h:MapS wb b es)(hx:Ev n σ c x (.map (some b)))(hy:Ev n σ c y (Str a)) :
 Rd P n σ c wb (.lookup t x y true) ty (.tuple #[(lookS es a).getD z,.bool (lookS es a).isSome]):=.mk fun d pos after gd act ha hc w1 hg=>by
 have r:=Xyc hk ht hz (h.grow hg) a true;simp [execOp,hx act ha hc,hy act ha hc,r]
theorem Wga{t kt e b:Nat}{x y z:Ea}{a:List UInt8}{v:Ga}(hb:Ada (clOf cl k) 2=true)(hk:P.underlying kt=some .string)(ht:P.underlying t=some (.map kt e))(hM:MapS w b es)(hn:lookS es a=none)(hx:Ev n σ True x (.map (some b)))(hy:Ev n σ True y (Str a))(hz:Ev n σ True z v)
 (h:∀ w1,MapS w1 b (es++[(a,v)])→w.grownBy w1 (some b)→w1.heap.size=w.heap.size→SR P Z ops cl lv W0 n K (k+1) rest σ w1) :
 SR P Z ops cl lv W0 n K k (⟨none,.mapUpdate t x y z,ty,pos,after,none⟩::rest) σ w:=by
 obtain ⟨w1,r1,r2,r3,r4⟩:=Vwd hk ht hM hn v;refine Xbe hb (w':=w1) (fun d pos after g act ha _=>?_) (h w1 r2 r3 r4);simp [execOp,hx act ha trivial,hy act ha trivial,hz act ha trivial,r1]
theorem Qaa{t:Nat}(hb:(!Ada (clOf cl k) 0 && !Ada (clOf cl k) 3&&Aya d n)=true)
  (h:∀ b w1,b=w.heap.size→G w w1→w1.heap.size=w.heap.size+1→MapS w1 b []→SR P Z ops cl lv W0 n K (k+1) rest ((d,True,.map (some b)) :: σ) w1) :
  SR P Z ops cl lv W0 n K k (⟨some d,.makeMap t none,ty,pos,after,none⟩::rest) σ w :=
 Qeb hb (w':=w.alloc (.map #[] 0)) (fun d pos after g a ha _=>by simp [execOp,Instr.makeMap]) (fun _=>Xse w _) (h _ _ rfl (Xse w _) Os (Xif w))
end
def numK(kd:Int)(f:Nat→Nd→Ga):List Nd→Nat→List (List UInt8×Ga)
 | [],_=>[]
 | d::l,k=>bif decide (d.kind=kd) then (d.text,f k d)::numK kd f l (k+1) else numK kd f l k
def cntK(kd:Int)(l:List Nd):Nat:=(l.filter fun d=>decide (d.kind=kd)).length
theorem Wha(kd:Int)(d:Nd)(l:List Nd):cntK kd (d::l)=(bif decide (d.kind=kd) then 1 else 0)+cntK kd l:=by
 unfold cntK;cases h:decide (d.kind=kd);rw [Cga (by simp [h])];simp;rw [Cha (by simpa using h),Bsa];show _=1+_;omega
theorem Xjf(kd:Int)(l:List Nd)(d:Nd):cntK kd (l++[d])=cntK kd l+(bif decide (d.kind=kd) then 1 else 0):=by
 unfold cntK;rw [List.filter_append,Ama];cases h:decide (d.kind=kd);rw [Cga (by simp [h])];rfl;rw [Cha (by simpa using h)];rfl
theorem Wtb(kd:Int)(f:Nat→Nd→Ga):∀ (l:List Nd) (k:Nat),(numK kd f l k).length=cntK kd l
 | [],k=>rfl
 | d::l,k=>by
  rw [Wha];unfold numK;cases decide (d.kind=kd);rw [Zeh,Wtb kd f l k];show _=0+_;omega;rw [Zfh,Bsa,Wtb kd f l (k+1)];show _=1+_;omega
theorem Ukc(kd:Int)(f:Nat→Nd→Ga)(d:Nd):∀ (l:List Nd) (k:Nat),numK kd f (l++[d]) k=numK kd f l k++(bif decide (d.kind=kd) then [(d.text,f (k+cntK kd l) d)] else [])
 | [],k=>by
  show (bif decide (d.kind=kd) then (d.text,f k d)::[] else [])=_;cases decide (d.kind=kd) <;> rfl
 | e::l,k=>by
  rw [Wha];show (bif decide (e.kind=kd) then (e.text,f k e)::numK kd f (l++[d]) (k+1) else numK kd f (l++[d]) k)=(bif decide (e.kind=kd) then (e.text,f k e)::numK kd f l (k+1) else numK kd f l k)++_;rw [Ukc kd f d l k,Ukc kd f d l (k+1)];cases decide (e.kind=kd);simp only [Zeh,Bfa];simp only [Zfh,List.cons_append];rw [show k+(1+cntK kd l)=k+1+cntK kd l by omega]
theorem Ulc(kd:Int)(s:List UInt8):∀ (l:List Nd) (k:Nat),(findK kd s l k).2 = -1∨(k:Int)≤(findK kd s l k).2
 | [],k=>.inl rfl
 | d::l,k=>by
  unfold findK;cases decide (d.kind=kd);exact Ulc kd s l k;cases decide (d.text=s);rcases Ulc kd s l (k+1) with h|h;exact .inl h;exact .inr (by show (k:Int)≤(findK kd s l (k+1)).2;omega);exact .inr (Int.le_refl _)
theorem Zvb(kd:Int)(f:Nat→Nd→Ga)(s:List UInt8):∀ (l:List Nd) (k:Nat),lookS (numK kd f l k) s=bif decide (0≤(findK kd s l k).2) then some (f (findK kd s l k).2.toNat (findK kd s l k).1) else none
 | [],k=>rfl
 | d::l,k=>by
  unfold numK findK;cases decide (d.kind=kd);exact Zvb kd f s l k;show (bif decide (d.text=s) then some (f k d) else lookS (numK kd f l (k+1)) s)=_;cases decide (d.text=s);exact Zvb kd f s l (k+1);show _=bif decide (0≤(k:Int)) then some (f (k:Int).toNat d) else none;rw [Jyg (Int.natCast_nonneg k)];rfl
theorem Yyc{kd:Int}{f:Nat→Nd→Ga}{s:List UInt8}:∀ {l:List Nd} {k:Nat},(∀ d∈l,d.text≠s)→lookS (numK kd f l k) s=none
 | [],k,_=>rfl
 | d::l,k,h=>by
  unfold numK;cases decide (d.kind=kd);exact Yyc fun e he=>h e (Aoa _ he);show (bif decide (d.text=s) then some (f k d) else lookS (numK kd f l (k+1)) s)=_;rw [Jxg (h d Ava)];exact Yyc fun e he=>h e (Aoa _ he)
def allK(l:List Nd):List (List UInt8×Ga):=l.map fun d=>(d.text,.bool true)
theorem Vxd(l:List Nd)(s:List UInt8):lookS (allK l) s=bif l.any (fun d=>decide (d.text=s)) then some (.bool true) else none:=by
 induction l with
 | nil=>rfl
 | cons d l ih =>
  show (bif decide (d.text=s) then some (.bool true) else lookS (allK l) s)=_;rw [ih,List.any_cons];cases decide (d.text=s) <;> rfl
theorem Qke(l:List Nd)(s:List UInt8):(lookS (allK l) s).getD (.bool false) = .bool (l.any fun d=>decide (d.text=s)):=by
 rw [Vxd];cases l.any fun d=>decide (d.text=s) <;> rfl
/-! the search of a variable -/
theorem Qba(a b:List Vr)(s:List UInt8):findV (a++b) s=(findV b s).or (findV a s):=by
 unfold findV;rw [Cea,List.find?_append]
theorem Umc(a:List Vr)(v:Vr)(s:List UInt8):findV (a++[v]) s=bif decide (v.name=s) then some v else findV a s:=by
 rw [Qba];unfold findV;show ((bif decide (v.name=s) then some v else none:Option Vr)).or _=_;cases decide (v.name=s) <;> rfl
theorem Qle{sc:List (List Vr)}{s:List UInt8}{i k:Nat}(hi:i<sc.length)(hk:k<sc[i].length)(h1:findV (sc.drop (i+1)).flatten s=none)(h2:findV (sc[i].drop (k+1)) s=none)(h3:sc[i][k].name=s):findV sc.flatten s=some sc[i][k]:=by
 have e:sc.flatten=(sc.take i).flatten++((sc[i].take k++[sc[i][k]])++sc[i].drop (k+1))++(sc.drop (i+1)).flatten:=by
  conv=>lhs;rw [← Cia i sc,Bva hi]
  rw [List.flatten_append,List.flatten_cons,Bqa,← List.take_succ_eq_append_getElem hk,Cia,← Bqa]
 rw [e,Qba,h1,Bga,Qba,Qba,h2,Bga,Umc,Jyg h3];rfl
theorem Zhe{sc:List (List Vr)}{s:List UInt8}{i k:Nat}(hi:i<sc.length)(hk:k<sc[i].length)(h2:findV (sc[i].drop (k+1)) s=none)(h3:sc[i][k].name≠s):findV (sc[i].drop k) s=none:=by
 rw [Bva hk,← List.singleton_append,Qba,h2,Bga];show findV ([]++[sc[i][k]]) s=none;rw [Umc,Jxg h3];rfl
theorem Zie{sc:List (List Vr)}{s:List UInt8}{i:Nat}(hi:i<sc.length)(h1:findV (sc.drop (i+1)).flatten s=none)(h2:findV sc[i] s=none):findV (sc.drop i).flatten s=none:=by
 rw [Bva hi,List.flatten_cons,Qba,h1,Bga,h2]
def TyR(M:Nat→Nat→Bool)(w:Aa)(k:Nat):Prop:=∃ cs e fr,w.heap[k]? = some (.cells cs e fr)∧M e k=true
structure GT (M:Nat→Nat→Bool) (n0:Nat) (w w':Aa):Prop where
  os:w'.os=w.os
  tape:w'.tape=w.tape
  output:w'.output=w.output
  size:w.heap.size≤w'.heap.size
  block:∀ k,k<w.heap.size→(k<n0∨¬ TyR M w k)→w'.heap[k]? = w.heap[k]?
section
variable {M:Nat→Nat→Bool} {n0:Nat}
theorem GT.refl(M:Nat→Nat→Bool)(n0:Nat)(w:Aa):GT M n0 w w:=⟨rfl,rfl,rfl,Aqa _,fun _ _ _=>rfl⟩
theorem GT.trans{u v w:Aa}(h:GT M n0 u v)(k:GT M n0 v w):GT M n0 u w :=
 ⟨k.os.trans h.os,k.tape.trans h.tape,k.output.trans h.output,Aha h.size k.size,fun i hi hb=>by
 have e:=h.block i hi hb;refine (k.block i (Axa hi h.size) (hb.imp id fun hb hr=>hb ?_)).trans e;obtain ⟨cs,f,fr,hr,hm⟩:=hr;exact ⟨cs,f,fr,e.symm.trans hr,hm⟩⟩
theorem GT.of_g{w w':Aa}(h:G w w'):GT M n0 w w':=⟨h.os,h.tape,h.output,h.size,fun k hk _=>h.block hk⟩
theorem gtd{a w:Aa}(g:GT M n0 a w):GT M n0 a w.drew:=g.trans (GT.of_g (G.drew _))
theorem gtg{a w w':Aa}(g:GT M n0 a w)(h:G w w'):GT M n0 a w':=g.trans (GT.of_g h)
theorem GT.mono{n1:Nat}{w w':Aa}(h:GT M n1 w w')(hn:n0≤n1):GT M n0 w w':=⟨h.os,h.tape,h.output,h.size,fun k hk hb=>h.block k hk (hb.imp (fun hb=>Axa hb hn) id)⟩
theorem GT.below{w w':Aa}(h:GT M n0 w w')(hn:n0≤w.heap.size):Go.RowKit.Below n0 w w':=⟨h.os,h.tape,h.output,h.size,fun k hk=>h.block k O (.inl hk)⟩
theorem Wx{w0 w w':Aa}{row:Option Nat}(h:GT M n0 w0 w)(hg:w.grownBy w' row)(hr:∀ k,row=some k→w0.heap.size≤k):GT M n0 w0 w' :=
 ⟨hg.os.trans h.os,hg.tape.trans h.tape,hg.output.trans h.output,Aha h.size hg.size,fun k hk hb=>(hg.block k (Axa hk h.size) (fun e=>by have:=hr k e.symm;omega)).trans (h.block k hk hb)⟩
theorem Yb{w0 w w':Aa}{j:Nat}(h:GT M n0 w0 w)(hg:w.grownBy w' (some j))(hj:w0.heap.size≤j):GT M n0 w0 w' :=
 Wx h hg fun k hk=>by injection hk with hk;omega
theorem Zhg{w:Aa}{b:Nat}{e:Ba}{l:List Ga}(h:Blk w b e l)(he:M e=fun _=>true):TyR M w b:=⟨_,_,_,h,congrFun he b⟩
theorem Wub{w:Aa}{b:Nat}{e:Ba}{l:List Ga}(h:Blk w b e l)(he:M e=fun _=>false):¬ TyR M w b:=fun ⟨cs,f,fr,hr,hm⟩=>by
 unfold Blk at h;rw [h] at hr;injection hr with hr;injection hr with _ hr;subst hr;rw [he] at hm;cases hm
theorem Zig{w:Aa}{e:Ba}{z m:Nat}{v:Ga}{xs:List Ga}(h:w.ownsRow n0 e z v m xs)(he:M e=fun _=>true):∀ k,v.ownBlock=some k→n0≤k∧TyR M w k:=fun k hk=>by
 rcases h.2 with ⟨h1,_⟩|⟨g,cap,cur,h1,h2,h3,_⟩;rw [h1] at hk;cases hk;rw [h1] at hk;have:g=k:=by injection hk
 subst this;exact ⟨h2,_,_,_,h3,congrFun he _⟩
theorem Blk.gt{j:Nat}{w w':Aa}{e:Ba}{l:List Ga}(h:Blk w j e l)(g:GT M n0 w w')(he:M e=fun _=>false):Blk w' j e l :=
 (g.block j h.lt (.inr (Wub h he))).trans h
theorem Obk.gt{w w':Aa}{L:List (Nat×Ba×List Ga)}(E:Obk w L)(g:GT M n0 w w')(ht:(L.all fun x=>!M x.2.1 x.1)=true):Obk w' L :=
 ⟨E.1,Xea E.2 fun b e l hm h=>(g.block b h.lt (.inr fun ⟨cs,f,fr,hr,hM⟩=>by
 unfold Blk at h;rw [h] at hr;injection hr with hr;injection hr with _ hr;subst hr;have:=Aia.1 ht _ hm;simp [hM] at this)).trans h⟩
theorem Kd.gt{w w':Aa}{D:Nat→Prop}{ks:List Nd}{v:Ga}(h:Kd w D ks v)(g:GT M n0 w w')(hD:∀ k,D k→k<n0):Kd w' D ks v :=
 Wk h (fun _ h _=>h) fun k hk hlt=>g.block k hlt (.inl (hD k hk))
theorem RowAt.gt{j o:Nat}{w w':Aa}{l:List Ga}(h:RowAt w j o l)(g:GT M n0 w w')(hj:j<n0):RowAt w' j o l:=fun i v hi=>by
 have h1:=h i v hi;exact (Ka (g.block j (Ia w _ h1) (.inl hj))).trans h1
/-! blocks of nodes -/
def NdR(w:Aa)(k:Nat):Prop:=∃ cs fr,w.heap[k]? = some (.cells cs 26 fr)
theorem NdR.lt{w:Aa}{k:Nat}(h:NdR w k):k<w.heap.size:=by
 obtain ⟨cs,fr,h⟩:=h;exact (Array.getElem?_eq_some_iff.1 h).1
theorem Jp{w:Aa}{b:Nat}{l:List Ga}(h:Blk w b 26 l):NdR w b:=⟨_,_,h⟩
theorem NdR.same{w w':Aa}{k:Nat}(h:NdR w k)(e:w'.heap[k]? = w.heap[k]?):NdR w' k:=by
 obtain ⟨cs,fr,h⟩:=h;exact ⟨cs,fr,e.trans h⟩
theorem NdR.ntyr{w:Aa}{k:Nat}(h:NdR w k)(he:M 26=fun _=>false):¬ TyR M w k:=fun ⟨cs,f,fr,hr,hm⟩=>by
 obtain ⟨cs',fr',h⟩:=h;rw [h] at hr;injection hr with hr;injection hr with _ hr;subst hr;rw [he] at hm;cases hm
theorem NdR.gt{w w':Aa}{k:Nat}(h:NdR w k)(g:GT M n0 w w')(he:M 26=fun _=>false):NdR w' k:=h.same (g.block k h.lt (.inr (h.ntyr he)))
theorem NdR.grow{w w':Aa}{k:Nat}(h:NdR w k)(g:G w w'):NdR w' k:=h.same (g.block h.lt)
def KdN(lo:Nat)(w:Aa)(ks:List Nd)(v:Ga):Prop:=Kd w (fun k=>lo≤k∧NdR w k) ks v
theorem KdN.gt{lo:Nat}{w w':Aa}{ks:List Nd}{v:Ga}(h:KdN lo w ks v)(g:GT M n0 w w')(he:M 26=fun _=>false):KdN lo w' ks v :=
 Wk h (fun k hk _=>⟨hk.1,hk.2.gt g he⟩) fun k hk hlt=>g.block k hlt (.inr (hk.2.ntyr he))
theorem KdN.grow{lo:Nat}{w w':Aa}{ks:List Nd}{v:Ga}(h:KdN lo w ks v)(g:G w w'):KdN lo w' ks v :=
 Wk h (fun k hk _=>⟨hk.1,hk.2.grow g⟩) fun k hk hlt=>g.block hlt
theorem KdN.keep{lo:Nat}{w w':Aa}{row:Option Nat}{ks:List Nd}{v:Ga}(h:KdN lo w ks v)(hg:w.grownBy w' row)(hr:∀ k,row=some k→k<lo):KdN lo w' ks v :=
 Wk h (fun k hk hlt=>⟨hk.1,hk.2.same (hg.block k hlt fun e=>by have:=hr k e.symm;omega)⟩) fun k hk hlt=>hg.block k hlt fun e=>by have:=hr k e.symm;omega
theorem KdN.low{lo lo':Nat}{w:Aa}{ks:List Nd}{v:Ga}(h:KdN lo w ks v)(hl:lo'≤lo):KdN lo' w ks v:=Kd.mono h fun k hk _=>⟨O,hk.2⟩
theorem Yyb(lo:Nat)(w:Aa):KdN lo w [] (.slice none 0 0):=Vsc _ _
def RetN(t:Nd)(lo:Nat)(r:Ga)(w:Aa):Prop:=∃ p c,r=ndV t (.slice p t.kids.length c)∧KdN lo w t.kids (.slice p t.kids.length c)
theorem Yzc(t:Nd)(lo:Nat)(w:Aa)(h:t.kids=[]):RetN t lo (ndV t (.slice none 0 0)) w:=⟨none,0,by rw [h];rfl,by rw [h];exact Yyb _ _⟩
theorem Xld{t:Nd}{lo:Nat}{v:Ga}{w:Aa}(h:KdN lo w t.kids v):RetN t lo (ndV t v) w:=by
 obtain ⟨p,c,rfl,h2⟩:=h;exact ⟨p,c,rfl,p,c,rfl,h2⟩
def OwnN(X:List Nat)(lo:Nat)(w:Aa)(ks:List Nd)(s:Ga):Prop:=OwnK 26 (fun b=>Dx lo X b∧NdR w b) lo w ks s
section
variable {X:List Nat} {lo:Nat} {w w':Aa} {ks:List Nd} {s:Ga}
theorem Yxa(X:List Nat)(lo:Nat)(w:Aa):OwnN X lo w [] (.slice none 0 0):=Yaf _ _ _ _
theorem OwnN.slice(h:OwnN X lo w ks s):∃ a c,s = .slice a ks.length c:=OwnK.slice h
theorem OwnN.ge(h:OwnN X lo w ks s):∀ k,s.ownBlock=some k→lo≤k:=OwnK.ge h
theorem OwnN.lt(h:OwnN X lo w ks s):∀ k,s.ownBlock=some k→k<w.heap.size:=OwnK.lt h
theorem OwnN.ne(h:OwnN X lo w ks s){b:Nat}(hb:b∈X):some b≠s.ownBlock:=OwnK.ne h fun hd=>hd.1.2 hb
theorem OwnN.nd(h:OwnN X lo w ks s):∀ k,s.ownBlock=some k→NdR w k:=fun k hk=>by
 obtain ⟨xs,_,_,h3⟩:=h;exact (h3 k hk).2
theorem Zwb{e:Ba}{D D':Nat→Prop}{base:Nat}(h:OwnK e D base w ks s)(hD:∀ b,D b→b<w.heap.size→D' b)(hs:∀ b,D b→b<w.heap.size→w'.heap[b]? = w.heap[b]?)(ho:∀ xs,w.ownsRow base e 9 s ks.length xs→w'.ownsRow base e 9 s ks.length xs):OwnK e D' base w' ks s:=by
 obtain ⟨xs,h1,h2,h3⟩:=h;exact ⟨xs,ho xs h1,Qf (fun b hb hlt=>⟨hD b hb.1 hlt,hb.2⟩) (fun b hb hlt=>hs b hb.1 hlt) _ _ h2,fun b hb=>hD b (h3 b hb) (h1.lt b hb).2⟩
theorem OwnN.grow(h:OwnN X lo w ks s)(g:G w w'):OwnN X lo w' ks s :=
 Zwb h (fun b hb _=>⟨hb.1,hb.2.grow g⟩) (fun b _ hlt=>g.block hlt) fun xs h=>Xl h g
theorem Zxb{e:Ba}{base z m:Nat}{v:Ga}{xs:List Ga}(h:w.ownsRow base e z v m xs)(hs:∀ b,v.ownBlock=some b→w'.heap[b]? = w.heap[b]?):w'.ownsRow base e z v m xs:=by
 refine ⟨h.1,?_⟩;rcases h.2 with h1|⟨g,cap,cur,h1,h2,h3,h4⟩;exact .inl h1;exact .inr ⟨g,cap,cur,h1,h2,(hs g (by rw [h1];rfl)).trans h3,h4⟩
theorem OwnN.gt(h:OwnN X lo w ks s)(g:GT M n0 w w')(he:M 26=fun _=>false):OwnN X lo w' ks s:=by
 have hn:=h.nd;have hl:=h.lt;exact Zwb h (fun b hb _=>⟨hb.1,hb.2.gt g he⟩) (fun b hb hlt=>g.block b hlt (.inr (hb.2.ntyr he))) fun xs h=>Zxb h fun b hb=>g.block b (hl b hb) (.inr ((hn b hb).ntyr he))
theorem OwnN.keep(h:OwnN X lo w ks s){b:Nat}(hg:w.grownBy w' (some b))(hb:b∈X):OwnN X lo w' ks s:=by
 have hne:=h.ne hb;refine Zwb h (fun k hk hlt=>⟨hk.1,hk.2.same (hg.block k hlt fun e=>by injection e with e;exact hk.1.2 (e▸hb))⟩) (fun k hk hlt=>hg.block k hlt fun e=>by injection e with e;exact hk.1.2 (e▸hb)) fun xs h=>Yi h hg (.inr fun e=>hne e.symm)
theorem OwnN.kd(h:OwnN X lo w ks s):KdN lo w ks s:=OwnK.kd h fun b hb=>⟨hb.1.1,hb.2⟩
end
end
section
variable {P:Fa} {Z:List Da→Act→Aa→Prop} {ops:List Oper} {cl:List Nat} {lv:List Bool} {W0:Aa} {n:Nat} {K:Act→Aa→Prop} {k:Nat} {rest:List Oper} {σ:List Ent} {w:Aa} {d:Nat} {ty:Ba} {pos:String} {after:Array Edge}
theorem Wia{t q q':Nat}{x y:Ea}{s zv:Ga}{news:List Ga}{b' o' lo:Nat}{X:List Nat}{ks ls:List Nd}(hb:(Ada (clOf cl k) 2&&Aya d n)=true)(ht:tyElem P t=some (26,9,104))(hzv:zeroOf P 26=some zv)
 (hzs:zv.cells.size=9) (hx:Ev n σ True x s) (hO:OwnN X lo w ks s) (hy:Ev n σ True y (.slice (some ⟨b',o',none⟩) q q')) (hq:ls.length=q) (hn:RowAt w b' o' news) (hK:KRow w (fun b=>(Dx lo X b∧NdR w b)∧some b≠s.ownBlock) ls news)
 (hlen:ks.length+ls.length≤10000000) (hbase:lo≤w.heap.size) (hD:Dx lo X w.heap.size)
 (h:∀ a' c' w',OwnN X lo w' (ks++ls) (.slice a' (ks++ls).length c')→w.grownBy w' s.ownBlock→SR P Z ops cl lv W0 n K (k+1) rest ((d,True,.slice a' (ks++ls).length c') :: σ) w') :
 SR P Z ops cl lv W0 n K k (⟨some d,.call { callee:=.builtin .append,args:=#[x,y],argTypes:=#[t,t] },ty,pos,after,none⟩::rest) σ w:=by
 obtain ⟨xs,h1,h2,h3⟩:=id hO;subst hq;have ones:=Vob hK;refine Ur hb ht hzv hzs Od hx h1 hy (Wxa hK) hn ones (by simp only [maxLen];omega) O hbase fun a' c' w' ho hg hat=>?_;have hlen':(ks++ls).length=ks.length+ls.length:=by simp
 have hnd:∀ b,(Value.slice a' (ks.length+ls.length) c').ownBlock=some b→NdR w' b:=fun b hb=>by
  rcases ho.2 with ⟨q1,_⟩|⟨g,cap,cur,q1,_,q3,_⟩;rw [q1] at hb;cases hb;rw [q1] at hb;have:g=b:=by injection hb
  subst this;exact ⟨_,_,q3⟩
 have hO':OwnN X lo w' (ks++ls) (.slice a' (ks++ls).length c'):=by
  refine ⟨xs++news,by rw [hlen'];exact ho,?_,?_⟩;rw [hlen'];refine Qf (fun b hb hlt=>⟨⟨hb.1.1,hb.1.2.same (hg.block b hlt hb.2)⟩,?_⟩) (fun b hb hlt=>hg.block b hlt hb.2) _ _ (Wya h2 hK);rcases hat with he|he <;> rw [he]
  exact hb.2;intro e;injection e with e;omega;rw [hlen'];intro b hb;refine ⟨?_,hnd b hb⟩;rcases hat with he|he <;> rw [he] at hb
  exact (h3 b hb).1;injection hb with hb;exact hb▸hD
 have:=h a' c' w' hO' hg;rwa [Ama] at this
end
section
variable {w w':Aa} {base:Nat} {e:Ba} {z m q:Nat} {v:Ga} {o:Option Addr} {xs:List Ga}
theorem Xmd{j:Nat}(h:w.ownsRow base e z (.slice o m q) m xs)(hj:j≤m):w.ownsRow base e z (.slice o j q) j (xs.take (j*z)):=by
 have hl:j*z≤m*z:=Cja z hj;refine ⟨by rw [Apa,h.1];omega,?_⟩;rcases h.2 with ⟨h1,h2⟩|⟨g,cap,cur,h1,h2,h3,h4,h5,h6,h7⟩;injection h1 with e1 e2 e3;subst e1;subst e3;exact .inl ⟨by rw [show j=0 by omega],O⟩;injection h1 with e1 e2 e3;subst e1;subst e3;exact .inr ⟨g,q,cur,rfl,h2,h3,O,h5,h6,by rw [← h7,List.take_take,Nat.min_eq_left hl]⟩
theorem Vqb(h:w.ownsRow base e z v m xs)(hm:0<m):∃ g c l,v = .slice (some ⟨g,0,none⟩) m c∧base≤g∧Blk w g e l∧m≤c∧l.length=c*z∧l.take (m*z)=xs∧
 ∀ w' l',Blk w' g e l'→l'.length=c*z→w'.ownsRow base e z v m (l'.take (m*z)):=by
 rcases h.2 with ⟨_,h2⟩|⟨g,cap,cur,h1,h2,h3,h4,h5,h6,h7⟩;omega;refine ⟨g,cap,cur.toList,h1,h2,by simpa [Blk] using h3,h4,by simpa using h6,h7,fun w' l' hB hl=>⟨?_,.inr ⟨g,cap,l'.toArray,h1,h2,hB,h4,h5,by simpa using hl,by simp⟩⟩⟩;rw [Apa,hl];have:=Cja z h4;omega
theorem take_set{α:Type}(l:List α)(i n:Nat)(u:α)(h:i<n):(l.set i u).take n=(l.take n).set i u:=by
 rw [List.take_set]
end
def mutR(e _k:Nat):Bool:=Ada e 67 || (Ada e 96 || Ada e 3)
def ckCells(F:Nd)(fv sv sn:Ga)(S:CSt):List Ga:=ndCells F fv++[sv,.int .i64 S.scope,.int .i64 S.level,sn,.int .i64 S.result.kind,Str S.result.name,.int .i64 S.ea,.int .i64 S.ee]
structure CK (F:Nd) (n0 b:Nat) (S:CSt) (fv sv sn:Ga) (w:Aa):Prop where
  B:Blk w b 67 (ckCells F fv sv sn S)
  hb:n0≤b
  kF:Kd w (fun k=>k<n0) F.kids fv
  hF:count F≤1000000
  ov:w.ownsRow n0 96 6 sv S.vars.length (S.vars.flatMap vrCells)
  on:w.ownsRow n0 3 1 sn S.next.length (S.next.map fun (k:Nat)=>Value.int .i64 (k:Int))
def Chk(F:Nd)(n0 b:Nat)(S:CSt)(w:Aa):Prop:=∃ fv sv sn,CK F n0 b S fv sv sn w
section
variable {F:Nd} {n0 b:Nat} {S S':CSt} {fv sv sn sv' sn':Ga} {w w' w1 w2:Aa}
theorem Xy{e e':Ba}{z m j:Nat}{v:Ga}{xs l:List Ga}(h:w.ownsRow n0 e z v m xs)(hB:Blk w j e' l)(he:Ada e e'=false):v.ownBlock≠some j:=fun hk=>by
 rcases h.2 with ⟨h1,_⟩|⟨g,cap,cur,h1,h2,h3,_⟩;rw [h1] at hk;cases hk;rw [h1] at hk;have:g=j:=by injection hk
 subst this;unfold Blk at hB;rw [hB] at h3;injection h3 with h3;injection h3 with _ h3;subst h3;simp at he
theorem Ysa{e e':Ba}{z z' m m':Nat}{v v':Ga}{xs xs':List Ga}(h:w.ownsRow n0 e z v m xs)(h':w.ownsRow n0 e' z' v' m' xs')(he:Ada e e'=false):v.ownBlock=none∨v.ownBlock≠v'.ownBlock:=by
 rcases h.2 with ⟨h1,_⟩|⟨g,cap,cur,h1,h2,h3,_⟩;exact .inl (by rw [h1];rfl);refine .inr fun hk=>?_;rcases h'.2 with ⟨h1',_⟩|⟨g',cap',cur',h1',h2',h3',_⟩;rw [h1,h1'] at hk;cases hk;rw [h1,h1'] at hk;have:g=g':=by injection hk
 subst this;rw [h3] at h3';injection h3' with h3';injection h3' with _ h3';subst h3';simp at he
theorem Xkf{M:Nat→Nat→Bool}{e:Ba}{z m:Nat}{v:Ga}{xs:List Ga}{row:Option Nat}(h:w.ownsRow n0 e z v m xs)(he:M e=fun _=>true)(hg:w.grownBy w' row)(hr:∀ k,row=some k→¬ TyR M w k):w'.ownsRow n0 e z v m xs:=by
 have ht:=Zig h he;refine Yi h hg ?_;rcases h.2 with ⟨h1,_⟩|⟨g,cap,cur,h1,_⟩;exact .inl (by rw [h1];rfl);refine .inr fun hk=>?_;have hv:v.ownBlock=some g:=by rw [h1];rfl
 exact hr g (hk.symm.trans hv) (ht g hv).2
theorem Zje(w:Aa)(row:Option Nat):w.grownBy w row:=⟨rfl,rfl,rfl,Aqa _,fun _ _ _=>rfl⟩
theorem CK.lt(h:CK F n0 b S fv sv sn w):n0≤b∧b<w.heap.size:=⟨h.hb,h.B.lt⟩
theorem CK.grow(h:CK F n0 b S fv sv sn w)(g:G w w'):CK F n0 b S fv sv sn w':=⟨h.B.grow g,h.hb,h.kF.grow g,h.hF,Xl h.ov g,Xl h.on g⟩
theorem CK.keepr{row:Option Nat}(h:CK F n0 b S fv sv sn w)(hg:w.grownBy w' row)(hr:∀ k,row=some k→n0≤k∧¬ TyR mutR w k):CK F n0 b S fv sv sn w' :=
 ⟨h.B.keep hg (fun e=>(hr b e.symm).2 (Zhg h.B rfl)),h.hb,h.kF.keep hg fun k hk _ e=>by have:=(hr k e.symm).1;omega,h.hF,Xkf h.ov rfl hg fun k hk=>(hr k hk).2,Xkf h.on rfl hg fun k hk=>(hr k hk).2⟩
def vr0:Vr:=⟨[],ty0,0,0,0⟩
theorem CK.chk(h:CK F n0 b S fv sv sn w):Chk F n0 b S w:=⟨_,_,_,h⟩
theorem Chk.lt(h:Chk F n0 b S w):n0≤b∧b<w.heap.size:=by obtain ⟨_,_,_,h⟩:=h;exact h.lt
theorem Chk.grow(h:Chk F n0 b S w)(g:G w w'):Chk F n0 b S w':=by obtain ⟨_,_,_,h⟩:=h;exact (h.grow g).chk
theorem Chk.keepr{row:Option Nat}(h:Chk F n0 b S w)(hg:w.grownBy w' row)(hr:∀ k,row=some k→n0≤k∧¬ TyR mutR w k):Chk F n0 b S w':=by obtain ⟨_,_,_,h⟩:=h;exact (h.keepr hg hr).chk
theorem CK.keep{j:Nat}{e:Ba}{l:List Ga}(h:CK F n0 b S fv sv sn w)(hg:w.grownBy w' (some j))(hB:Blk w j e l)(he:mutR e=fun _=>false)(hj:n0≤j):CK F n0 b S fv sv sn w' :=
 h.keepr hg fun k hk=>by injection hk with hk;subst hk;exact ⟨hj,Wub hB he⟩
theorem Chk.keep{j:Nat}{e:Ba}{l:List Ga}(h:Chk F n0 b S w)(hg:w.grownBy w' (some j))(hB:Blk w j e l)(he:mutR e=fun _=>false)(hj:n0≤j):Chk F n0 b S w':=by obtain ⟨_,_,_,h⟩:=h;exact (h.keep hg hB he hj).chk
theorem CK.keepO{X:List Nat}{lo:Nat}{ks:List Nd}{s:Ga}(h:CK F n0 b S fv sv sn w)(hg:w.grownBy w' s.ownBlock)(hO:OwnN X lo w ks s)(hj:n0≤lo):CK F n0 b S fv sv sn w' :=
 h.keepr hg fun k hk=>⟨Aha hj (hO.ge k hk),(hO.nd k hk).ntyr rfl⟩
theorem Chk.keepO{X:List Nat}{lo:Nat}{ks:List Nd}{s:Ga}(h:Chk F n0 b S w)(hg:w.grownBy w' s.ownBlock)(hO:OwnN X lo w ks s)(hj:n0≤lo):Chk F n0 b S w':=by obtain ⟨_,_,_,h⟩:=h;exact (h.keepO hg hO hj).chk
theorem CK.set(h:CK F n0 b S fv sv sn w)(hg:w.grownBy w' (some b))(hB:Blk w' b 67 (ckCells F fv sv sn S'))(hv:S'.vars=S.vars)(hn:S'.next=S.next):CK F n0 b S' fv sv sn w' :=
 ⟨hB,h.hb,h.kF.keep hg fun k hk _ e=>by injection e with e;have:=h.hb;omega,h.hF,by rw [hv];exact Yi h.ov hg (.inr (Xy h.ov h.B rfl)),by rw [hn];exact Yi h.on hg (.inr (Xy h.on h.B rfl))⟩
end
theorem sk_nd0:stripT nd0=nd0:=by rw [Xha];rfl
theorem Wla(t:Nd):(stripT t).kind=t.kind:=by rw [Xha];rfl
theorem Zjg(t:Nd):(stripT t).text=t.text:=by rw [Xha];rfl
theorem Vxg(t:Nd):(stripT t).num=numS t:=by rw [Xha];rfl
theorem Wvb(t:Nd)(i:Nat):Za (stripT t) i=stripT (Za t i):=by
 rw [Za,Qza,← sk_nd0,Aga,Ana,Za,Aga,sk_nd0]
 cases t.kids[i]? with
 | none=>exact sk_nd0.symm
 | some k=>rfl
theorem Xlf(t:Nd)(n:Int):lenK (stripT t) n=lenK t n:=by rw [lenK,lenK,Vpb]
theorem Xmf(t:Nd)(q:Int→Bool):everyB (stripT t) q=everyB t q:=by
 rw [everyB,Qza,Bla,everyB];congr 1;funext k;show q (stripT k).kind=q k.kind;rw [Wla]
theorem Zkg(t:Nd)(qs:List (Int→Bool)):kidsB (stripT t) qs=kidsB t qs:=by
 rw [kidsB,Vpb,kidsB];congr 2;funext i;rw [Wvb,Wla]
theorem Zlg(t:Nd):commB (stripT t)=commB t:=by unfold commB;rw [Wla,Vpb,Wvb,Wvb,Wla,Wla]
theorem Zke(t:Nd):Vu (stripT t)=Vu t:=by rw [Vu,Vu,Wla,Xlf,Wvb,Wla]
theorem Xnf(t:Nd):(stripT t).kids.any Vu=t.kids.any Vu:=by
 rw [Qza,List.any_map];congr 1;funext k;exact Zke k
theorem Zmg(t:Nd):formB (stripT t)=formB t:=by
 unfold formB;simp only [Wla,Xnf,Xmf,Zkg,Xlf,Zlg,Wvb,Vpb];cases h:Wj t;have h':=h;simp only [Wj,Baa] at h';simp only [h'.1,h'.2,Zeh];have:(stripT t).num=t.num:=by rw [Vxg,numS,h];rfl
 rw [this]
theorem Xof(t:Nd):textB' (stripT t)=textB' t:=by unfold textB';rw [Wla,Zjg]
theorem Zng:∀ t,permF (stripT t)=permF t:=by
 refine Nd.ind fun t ih=>?_;rw [Uo,Uo t,locB,locB,Zmg,Xof,Qza,Bla];congr 1;rw [Aza,Aia,Aia];constructor <;> intro h k hk <;> have:=h k hk <;> simpa [ih k hk] using this
theorem Xpf:∀ t,depthN (stripT t)=depthN t:=by
 refine Nd.ind fun t ih=>?_;rw [Uya,Uya t,Qza,Bha];congr 2;exact Bia fun k hk=>ih k hk
theorem Vyd(t:Nd):validB (stripT t)=validB t:=by rw [validB,validB,permB,permB,Zng,Xpf,Wla]
theorem Vzd:∀ t,stripT (plainT t)=stripT t:=by
 refine Nd.ind fun t ih=>?_;have hc:Wj (plainT t)=Wj t:=by rw [Wj,Wj,Vb];rfl
 have hn:numS (plainT t)=numS t:=by
  rw [numS,hc,numS];cases h:Wj t;rfl;show (plainT t).num=t.num;rw [Vb];show numS t=t.num;rw [numS,h];rfl
 rw [Xha (plainT t),hn,Ja,Bha,Xha t,Vb t];show Nd.mk t.kind t.text (numS t) 0 (t.kids.map (stripT ∘ plainT)) ty0 0 0=_;exact congrArg (fun l=>Nd.mk t.kind t.text (numS t) 0 l ty0 0 0) (Bia fun k hk=>ih k hk)
theorem Xzc:∀ t,count (plainT t)=count t:=by
 refine Nd.ind fun t ih=>?_;rw [Qm,Ja,Bha,Qm t];congr 2;exact Bia fun k hk=>ih k hk
theorem Zea:∀ t,plainT (plainT t)=plainT t:=by
 refine Nd.ind fun t ih=>?_;have hc:Wj (plainT t)=Wj t:=by rw [Wj,Wj,Vb];rfl
 have hn:numS (plainT t)=numS t:=by
  rw [numS,hc,numS];cases h:Wj t;rfl;show (plainT t).num=t.num;rw [Vb];show numS t=t.num;rw [numS,h];rfl
 rw [Vb (plainT t),hn,Ja,Bha,Vb t];show Nd.mk t.kind t.text (numS t) t.pos (t.kids.map (plainT ∘ plainT)) ty0 0 0=_;exact congrArg (fun l=>Nd.mk t.kind t.text (numS t) t.pos l ty0 0 0) (Bia fun k hk=>ih k hk)
theorem Zle(t:Nd)(name:List UInt8)(hc:count t≤1000000):(Ug t name).1.length≤1000000:=by
 unfold Ug
 cases hf:t.kids.find? (isStr name) with
 | none=>exact Aea _
 | some d =>
  cases hm:mapO Zka d.kids with
  | none=>simp only [hm];exact Aea _
  | some l =>
   simp only [hm];have:=Vxc Zka _ _ hm;have:=Zrb (Bta hf);have:=Wu d;omega
theorem Uad{α:Type}{l xs:List α}{m i:Nat}(h:l.take m=xs)(hi:i<m):l[i]? = xs[i]?:=by
 rw [← h,Cka,if_pos hi]
theorem Xte{α:Type}{l:List α}{o:Nat}(h:o<l.length)(v:α):l.set o v=l.take o++[v]++l.drop (o+[v].length):=by
 rw [List.set_eq_take_append_cons_drop,if_pos h];simp
structure FSh (F:Nd):Prop where
  k6:∀ d∈F.kids,d.kind=6→1≤d.kids.length
  k4:∀ d∈F.kids,d.kind=4→2≤d.kids.length
  kp:∀ d∈F.kids,d.kind=4→∀ f∈(Za d 0).kids,1≤f.kids.length
theorem Zyb{kd:Int}{s:List UInt8}:∀ (l:List Nd) (k:Nat),0≤(findK kd s l k).2→(findK kd s l k).1∈l∧(findK kd s l k).1.kind=kd
 | [],k,h=>absurd h (show ¬ (0:Int)≤-1 by decide)
 | d::l,k,h=>by
  rw [findK] at h ⊢;cases h1:decide (d.kind=kd);rw [h1,Zeh] at h;have:=Zyb l k h;exact ⟨Aoa _ this.1,this.2⟩;rw [h1,Zfh] at h;rw [Zfh];cases h2:decide (d.text=s);rw [h2,Zeh] at h;have:=Zyb l (k+1) h;exact ⟨Aoa _ this.1,this.2⟩;exact ⟨Ava,Zch h1⟩
theorem FSh.l6{F:Nd}(H:FSh F){s:List UInt8}(h:0≤(findD F 6 s).2):0<(findD F 6 s).1.kids.length:=H.k6 _ (Zyb _ _ h).1 (Zyb _ _ h).2
theorem FSh.l4{F:Nd}(H:FSh F){s:List UInt8}(h:0≤(findD F 4 s).2):2≤(findD F 4 s).1.kids.length:=H.k4 _ (Zyb _ _ h).1 (Zyb _ _ h).2
theorem Xnd{s:List UInt8}(h:nameB s=true):s≠[]:=by
 intro e;subst e;revert h;decide
theorem Xs{t:Nd}{f:Nd→Bool}(h:t.kids.all f=true){i:Nat}(hi:i<t.kids.length):f (Za t i)=true:=by
 rw [Yj hi];exact Aia.1 h _ (Afa hi)
theorem Vyg{s:List UInt8}(h:anyS Vra s=true):s≠[]:=by
 intro e;subst e;revert h;decide
theorem Vy{t:Nd}(h:noneB t=true):t.kind=9∧t.text=[]∧t.kids.length=0:=by
 unfold noneB at h;simp only [Aaa,Zah] at h;exact ⟨h.1.1,h.1.2,by simpa [lenK] using h.2⟩
theorem Zab{t:Nd}(h:exprB t=true):t.kind≠9:=by
 intro e;unfold exprB at h;rw [e] at h;have h:(expK 9&&permF t)=true:=h;rw [show expK 9=false by decide] at h;cases h
theorem Xod{t:Nd}(h:Xaa t=true):t.kind≠9:=by
 intro e;unfold Xaa at h;rw [e] at h;cases h
theorem Xpd{t:Nd}{k:Int}(h:Qya t k=true):t.kind=k∧exprB t=true:=by
 unfold Qya at h;simp only [Aaa,Zah] at h;exact h
theorem Uu{t:Nd}(h:blockB t=true):t.kind=10:=Zch (Aja.1 h).1
theorem sh28{t:Nd}(h:t.kind=28)(hx:exprB t=true):t.text≠[]∧t.kids.length=1∧exprB (Za t 0)=true:=by
 rw [← Qn] at hx;unfold Yla at hx;rw [h] at hx;have hx:((nameB t.text&&lenK t 1)&&exprB (Za t 0))=true:=hx;simp only [Aaa,Aba,Zah] at hx;exact ⟨Xnd hx.1.1,by (have hz:=hx.1.2;first|(unfold lenK at hz;simp at hz;omega)|(simp at hz;omega)),hx.2⟩
theorem sh29{t:Nd}(h:t.kind=29)(hx:exprB t=true):t.kids.length=2∧exprB (Za t 0)=true∧exprB (Za t 1)=true:=by
 rw [← Qn] at hx;unfold Yla at hx;rw [h] at hx;have hx:((plainB t&&lenK t 2)&&t.kids.all exprB)=true:=hx;simp only [Aaa,Aba,Zah] at hx;exact ⟨by (have hz:=hx.1.2;first|(unfold lenK at hz;simp at hz;omega)|(simp at hz;omega)),Xs hx.2 (by (have hz:=hx.1.2;first|(unfold lenK at hz;simp at hz;omega)|(simp at hz;omega))),Xs hx.2 (by (have hz:=hx.1.2;first|(unfold lenK at hz;simp at hz;omega)|(simp at hz;omega)))⟩
theorem sh30{t:Nd}(h:t.kind=30)(hx:exprB t=true):1≤t.kids.length∧t.kids.all exprB=true:=by
 rw [← Qn] at hx;unfold Yla at hx;rw [h] at hx;have hx:((plainB t&&decide (1≤(t.kids.length:Int)))&&t.kids.all exprB)=true:=hx;simp only [Aaa,Aba,Zah] at hx;exact ⟨by have:=hx.1.2;omega,hx.2⟩
theorem sh31{t:Nd}(h:t.kind=31)(hx:exprB t=true):t.text≠[]∧t.kids.length=1∧exprB (Za t 0)=true:=by
 rw [← Qn] at hx;unfold Yla at hx;rw [h] at hx;have hx:(((decide (t.text=[45]) || decide (t.text=[33]))&&lenK t 1)&&exprB (Za t 0))=true:=hx;simp only [Aaa,Aba,Zah] at hx;exact ⟨by rcases hx.1.1 with e|e <;> rw [e] <;> simp,by (have hz:=hx.1.2;first|(unfold lenK at hz;simp at hz;omega)|(simp at hz;omega)),hx.2⟩
theorem sh32{t:Nd}(h:t.kind=32)(hx:exprB t=true):t.text≠[]∧t.kids.length=2∧exprB (Za t 0)=true∧exprB (Za t 1)=true:=by
 rw [← Qn] at hx;unfold Yla at hx;rw [h] at hx;have hx:((anyS Vra t.text&&lenK t 2)&&t.kids.all exprB)=true:=hx;simp only [Aaa,Aba,Zah] at hx;exact ⟨Vyg hx.1.1,by (have hz:=hx.1.2;first|(unfold lenK at hz;simp at hz;omega)|(simp at hz;omega)),Xs hx.2 (by (have hz:=hx.1.2;first|(unfold lenK at hz;simp at hz;omega)|(simp at hz;omega))),Xs hx.2 (by (have hz:=hx.1.2;first|(unfold lenK at hz;simp at hz;omega)|(simp at hz;omega)))⟩
theorem sh33{t:Nd}(h:t.kind=33)(hx:exprB t=true):t.kids.length=1∧exprB (Za t 0)=true:=by
 rw [← Qn] at hx;unfold Yla at hx;rw [h] at hx;have hx:((plainB t&&lenK t 1)&&exprB (Za t 0))=true:=hx;simp only [Aaa,Aba,Zah] at hx;exact ⟨by (have hz:=hx.1.2;first|(unfold lenK at hz;simp at hz;omega)|(simp at hz;omega)),hx.2⟩
theorem sh35{t:Nd}(h:t.kind=35)(hx:exprB t=true):t.kids.length=1∧exprB (Za t 0)=true:=by
 rw [← Qn] at hx;unfold Yla at hx;rw [h] at hx;have hx:((plainB t&&lenK t 1)&&exprB (Za t 0))=true:=hx;simp only [Aaa,Aba,Zah] at hx;exact ⟨by (have hz:=hx.1.2;first|(unfold lenK at hz;simp at hz;omega)|(simp at hz;omega)),hx.2⟩
theorem sh36{t:Nd}(h:t.kind=36)(hx:exprB t=true):t.kids.length=1∧exprB (Za t 0)=true:=by
 rw [← Qn] at hx;unfold Yla at hx;rw [h] at hx;have hx:((plainB t&&lenK t 1)&&exprB (Za t 0))=true:=hx;simp only [Aaa,Aba,Zah] at hx;exact ⟨by (have hz:=hx.1.2;first|(unfold lenK at hz;simp at hz;omega)|(simp at hz;omega)),hx.2⟩
theorem sh37{t:Nd}(h:t.kind=37)(hx:exprB t=true):t.kids.length=1∧exprB (Za t 0)=true:=by
 rw [← Qn] at hx;unfold Yla at hx;rw [h] at hx;have hx:((plainB t&&lenK t 1)&&exprB (Za t 0))=true:=hx;simp only [Aaa,Aba,Zah] at hx;exact ⟨by (have hz:=hx.1.2;first|(unfold lenK at hz;simp at hz;omega)|(simp at hz;omega)),hx.2⟩
theorem sh38{t:Nd}(h:t.kind=38)(hx:exprB t=true):t.kids.length=1∧blockB (Za t 0)=true:=by
 rw [← Qn] at hx;unfold Yla at hx;rw [h] at hx;have hx:((plainB t&&lenK t 1)&&blockB (Za t 0))=true:=hx;simp only [Aaa,Aba,Zah] at hx;exact ⟨by (have hz:=hx.1.2;first|(unfold lenK at hz;simp at hz;omega)|(simp at hz;omega)),hx.2⟩
theorem sh11{t:Nd}(h:t.kind=11)(hx:stmtB t=true):t.text≠[]∧t.kids.length=1∧exprB (Za t 0)=true:=by
 rw [← Ut] at hx;unfold refStmt at hx;rw [h] at hx;have hx:((nameB t.text&&lenK t 1)&&exprB (Za t 0))=true:=hx;simp only [Aaa,Aba,Zah] at hx;exact ⟨Xnd hx.1.1,by (have hz:=hx.1.2;first|(unfold lenK at hz;simp at hz;omega)|(simp at hz;omega)),hx.2⟩
theorem sh12{t:Nd}(h:t.kind=12)(hx:stmtB t=true):t.kids.length=2∧exprB (Za t 0)=true∧exprB (Za t 1)=true:=by
 rw [← Ut] at hx;unfold refStmt at hx;rw [h] at hx;have hx:((plainB t&&lenK t 2)&&t.kids.all exprB)=true:=hx;simp only [Aaa,Aba,Zah] at hx;exact ⟨by (have hz:=hx.1.2;first|(unfold lenK at hz;simp at hz;omega)|(simp at hz;omega)),Xs hx.2 (by (have hz:=hx.1.2;first|(unfold lenK at hz;simp at hz;omega)|(simp at hz;omega))),Xs hx.2 (by (have hz:=hx.1.2;first|(unfold lenK at hz;simp at hz;omega)|(simp at hz;omega)))⟩
theorem sh16{t:Nd}(h:t.kind=16)(hx:stmtB t=true):t.kids.length=2∧exprB (Za t 0)=true∧exprB (Za t 1)=true:=by
 rw [← Ut] at hx;unfold refStmt at hx;rw [h] at hx;have hx:((plainB t&&lenK t 2)&&t.kids.all exprB)=true:=hx;simp only [Aaa,Aba,Zah] at hx;exact ⟨by (have hz:=hx.1.2;first|(unfold lenK at hz;simp at hz;omega)|(simp at hz;omega)),Xs hx.2 (by (have hz:=hx.1.2;first|(unfold lenK at hz;simp at hz;omega)|(simp at hz;omega))),Xs hx.2 (by (have hz:=hx.1.2;first|(unfold lenK at hz;simp at hz;omega)|(simp at hz;omega)))⟩
theorem sh13{t:Nd}(h:t.kind=13)(hx:stmtB t=true):t.kids.length=1∧exprB (Za t 0)=true:=by
 rw [← Ut] at hx;unfold refStmt at hx;rw [h] at hx;have hx:((plainB t&&lenK t 1)&&(Qya (Za t 0) 30 || Qya (Za t 0) 33))=true:=hx;simp only [Aaa,Aba,Zah] at hx;exact ⟨by (have hz:=hx.1.2;first|(unfold lenK at hz;simp at hz;omega)|(simp at hz;omega)),hx.2.elim (fun h=>(Xpd h).2) (fun h=>(Xpd h).2)⟩
theorem sh14{t:Nd}(h:t.kind=14)(hx:stmtB t=true):t.kids.length=1∧exprB (Za t 0)=true:=by
 rw [← Ut] at hx;unfold refStmt at hx;rw [h] at hx;have hx:((plainB t&&lenK t 1)&&Qya (Za t 0) 30)=true:=hx;simp only [Aaa,Aba,Zah] at hx;exact ⟨by (have hz:=hx.1.2;first|(unfold lenK at hz;simp at hz;omega)|(simp at hz;omega)),(Xpd hx.2).2⟩
theorem sh15{t:Nd}(h:t.kind=15)(hx:stmtB t=true):t.kids.length=1∧exprB (Za t 0)=true:=by
 rw [← Ut] at hx;unfold refStmt at hx;rw [h] at hx;have hx:((plainB t&&lenK t 1)&&Qya (Za t 0) 30)=true:=hx;simp only [Aaa,Aba,Zah] at hx;exact ⟨by (have hz:=hx.1.2;first|(unfold lenK at hz;simp at hz;omega)|(simp at hz;omega)),(Xpd hx.2).2⟩
theorem sh17{t:Nd}(h:t.kind=17)(hx:stmtB t=true):t.kids.length=1∧exprB (Za t 0)=true:=by
 rw [← Ut] at hx;unfold refStmt at hx;rw [h] at hx;have hx:((plainB t&&lenK t 1)&&exprB (Za t 0))=true:=hx;simp only [Aaa,Aba,Zah] at hx;exact ⟨by (have hz:=hx.1.2;first|(unfold lenK at hz;simp at hz;omega)|(simp at hz;omega)),hx.2⟩
theorem sh21{t:Nd}(h:t.kind=21)(hx:stmtB t=true):t.kids.length=1∧exprB (Za t 0)=true:=by
 rw [← Ut] at hx;unfold refStmt at hx;rw [h] at hx;have hx:((plainB t&&lenK t 1)&&exprB (Za t 0))=true:=hx;simp only [Aaa,Aba,Zah] at hx;exact ⟨by (have hz:=hx.1.2;first|(unfold lenK at hz;simp at hz;omega)|(simp at hz;omega)),hx.2⟩
theorem sh20{t:Nd}(h:t.kind=20)(hx:stmtB t=true):t.kids.length≤1∧t.kids.all exprB=true:=by
 rw [← Ut] at hx;unfold refStmt at hx;rw [h] at hx;have hx:((plainB t&&decide ((t.kids.length:Int)≤1))&&t.kids.all exprB)=true:=hx;simp only [Aaa,Aba,Zah] at hx;exact ⟨by have:=hx.1.2;omega,hx.2⟩
theorem sh19{t:Nd}(h:t.kind=19)(hx:stmtB t=true):t.kids.length=2∧(noneB (Za t 0)=true∨exprB (Za t 0)=true)∧blockB (Za t 1)=true:=by
 rw [← Ut] at hx;unfold refStmt at hx;rw [h] at hx;have hx:(((plainB t&&lenK t 2)&&(noneB (Za t 0) || exprB (Za t 0)))&&blockB (Za t 1))=true:=hx;simp only [Aaa,Aba,Zah] at hx;exact ⟨by (have hz:=hx.1.1.2;first|(unfold lenK at hz;simp at hz;omega)|(simp at hz;omega)),hx.1.2,hx.2⟩
theorem sh6s{t:Nd}(h:t.kind=6)(hx:stmtB t=true):varB t=true:=by
 rw [← Ut] at hx;unfold refStmt at hx;rw [h] at hx;have hx:(varB t)=true:=hx;exact hx
theorem sh10s{t:Nd}(h:t.kind=10)(hx:stmtB t=true):blockB t=true:=by
 rw [← Ut] at hx;unfold refStmt at hx;rw [h] at hx;have hx:(blockB t)=true:=hx;exact hx
theorem sh18s{t:Nd}(h:t.kind=18)(hx:stmtB t=true):ifB t=true:=by
 rw [← Ut] at hx;unfold refStmt at hx;rw [h] at hx;have hx:(ifB t)=true:=hx;exact hx
theorem sh10{t:Nd}(hx:blockB t=true):t.kids.all stmtB=true:=by
 rw [← Vpd,Uac] at hx;cases h:(!decide (t.kind=10) || !plainB t);rw [h] at hx;exact hx;rw [h] at hx;cases hx
theorem sh18{t:Nd}(hx:ifB t=true):t.kids.length=3∧exprB (Za t 0)=true∧blockB (Za t 1)=true∧(blockB (Za t 2)=true∨ifB (Za t 2)=true∨noneB (Za t 2)=true):=by
 rw [← Yjf,Yhf] at hx;cases h:((!decide (t.kind=18) || !plainB t) || !lenK t 3);rw [h,Zeh] at hx;simp only [Aaa,Aba] at hx;simp only [Baa,Bool.not_eq_false'] at h;exact ⟨by (have hz:=h.2;first|(unfold lenK at hz;simp at hz;omega)|(simp at hz;omega)),hx.1.1,hx.1.2,hx.2.elim (fun h=>h.elim .inl fun h=>.inr (.inl h)) fun h=>.inr (.inr h)⟩;rw [h] at hx;cases hx
theorem sh6{t:Nd}(hx:varB t=true):t.text≠[]∧t.kids.length=2∧Xaa (Za t 0)=true∧(noneB (Za t 1)=true∨exprB (Za t 1)=true):=by
 rw [← Qee,refVar] at hx;simp only [Aaa,Aba] at hx;exact ⟨Xnd hx.1.1.1.2,by (have hz:=hx.1.1.2;first|(unfold lenK at hz;simp at hz;omega)|(simp at hz;omega)),hx.1.2,hx.2⟩
theorem sh22{t:Nd}(h:t.kind=22)(hx:stmtB t=true):t.kids.all Xga=true:=by
 have hp:permF t=true:=(Aja.1 hx).2;rw [← Yxd h] at hp;exact (Aja.1 hp).1
theorem sh23{t:Nd}(hx:Xga t=true):t.kind=23∧t.kids.length=2∧commF (Za t 0)=true∧blockB (Za t 1)=true:=by
 unfold Xga at hx;simp only [Aaa,Zah] at hx;exact ⟨hx.1.1.1.1,by (have hz:=hx.1.1.2;first|(unfold lenK at hz;simp at hz;omega)|(simp at hz;omega)),hx.1.2,hx.2⟩
theorem Vrb{t:Nd}(h:commF t=true):t.kind=9∨stmtB t=true:=by
 rw [← Qsb,Zec] at h;cases h1:anyK [16,9] t.kind;rw [h1,Zeh] at h;cases h2:decide (t.kind=13);rw [h2,Zeh] at h;cases h3:decide (t.kind=12);rw [h3,Zeh] at h;cases h4:decide (t.kind=11);rw [h4] at h;cases h;rw [h4] at h;exact .inr (Aja.1 h).1;rw [h3] at h;exact .inr (Aja.1 h).1;rw [h2] at h;exact .inr (Aja.1 h).1;rw [h1,Zfh,Aba] at h;exact h.elim .inr fun h=>.inl (Vy h).1
theorem Qbb{t:Nd}(h:stmtB t=true):t.kind≠9:=by
 intro e;unfold stmtB at h;rw [e] at h;rw [show stK 9=false by decide] at h;cases h
def tabsL(k:Nat):List UInt8:=List.replicate k 9
def digF:Nat→Nat→List UInt8
 | 0,_=>[]
 | f+1,n=>bif Aya n 10 then [UInt8.ofNat (48+n)] else digF f (n / 10)++[UInt8.ofNat (48+n % 10)]
def digL(n:Nat):List UInt8:=digF 20 n
structure Tx where
  ex:Nat→List UInt8
  st:Nat→List UInt8
  ls:Nat→List UInt8
  cs:Nat→List UInt8
def tx0:Tx:=⟨fun _=>[],fun _=>[],fun _=>[],fun _=>[]⟩
def blkX(x:Tx)(k:Nat):List UInt8:=(([123,10]++x.ls (k+1))++tabsL k)++[125]
def parX(q:Bool)(s:List UInt8):List UInt8:=bif q then ([40]++s)++[41] else s
def joinX:List (List UInt8)→List UInt8
 | []=>[]
 | s::r=>s++r.flatMap fun u=>[44,32]++u
def typeX(t:Nd):List UInt8:=bif decide (t.kind=8) then [42]++t.text else bif decide (t.text=[99,104,97,110]) then [99,104,97,110,32,105,110,116] else bif decide (t.text=[102,117,110,99]) then [102,117,110,99,40,41] else t.text
section
variable (t:Nd) (x:Nat→Tx) (l:List Tx)
def oprX(i k:Nat):List UInt8:=parX (decide ((Za t i).kind=32)) ((x i).ex k)
def basX(k:Nat):List UInt8:=parX ((decide ((Za t 0).kind=32) || decide ((Za t 0).kind=31)) || decide ((Za t 0).kind=33)) ((x 0).ex k)
def exX(k:Nat):List UInt8 :=
 bif decide (t.kind=24) then digL t.num.toNat
 else bif decide (t.kind=25) then (bif decide (t.num=1) then [116,114,117,101] else [102,97,108,115,101])
 else bif decide (t.kind=26) then [110,105,108]
 else bif decide (t.kind=27) then t.text
 else bif decide (t.kind=34) then ([110,101,119,40]++t.text)++[41]
 else bif decide (t.kind=28) then (basX t x k++[46])++t.text
 else bif decide (t.kind=29) then ((basX t x k++[91])++(x 1).ex k)++[93]
 else bif decide (t.kind=30) then ((basX t x k++[40])++joinX ((l.drop 1).map fun y=>y.ex k))++[41]
 else bif decide (t.kind=31) then t.text++oprX t x 0 k
 else bif decide (t.kind=33) then [60,45]++oprX t x 0 k
 else bif decide (t.kind=32) then (((oprX t x 0 k++[32])++t.text)++[32])++oprX t x 1 k
 else bif decide (t.kind=35) then ([109,97,107,101,40,91,93,105,110,116,44,32]++(x 0).ex k)++[41]
 else bif decide (t.kind=36) then ([109,97,107,101,40,99,104,97,110,32,105,110,116,44,32]++(x 0).ex k)++[41]
 else bif decide (t.kind=37) then ([108,101,110,40]++(x 0).ex k)++[41]
 else [102,117,110,99,40,41,32]++blkX (x 0) k
def varX(k:Nat):List UInt8:=((([118,97,114,32]++t.text)++[32])++typeX (Za t 0))++(bif decide ((Za t 1).kind=9) then [] else [32,61,32]++(x 1).ex k)
def ifX(k:Nat):List UInt8:=((([105,102,32]++(x 0).ex k)++[32])++blkX (x 1) k)++(bif decide ((Za t 2).kind=10) then [32,101,108,115,101,32]++blkX (x 2) k else bif decide ((Za t 2).kind=18) then [32,101,108,115,101,32]++(x 2).st k else [])
def stX(k:Nat):List UInt8 :=
 bif decide (t.kind=6) then varX t x k
 else bif decide (t.kind=10) then (([123,10]++l.flatMap fun y=>(tabsL (k+1)++y.st (k+1))++[10])++tabsL k)++[125]
 else bif decide (t.kind=11) then (t.text++[32,58,61,32])++(x 0).ex k
 else bif decide (t.kind=12) then ((x 0).ex k++[32,61,32])++(x 1).ex k
 else bif decide (t.kind=13) then (x 0).ex k
 else bif decide (t.kind=14) then [103,111,32]++(x 0).ex k
 else bif decide (t.kind=15) then [100,101,102,101,114,32]++(x 0).ex k
 else bif decide (t.kind=16) then ((x 0).ex k++[32,60,45,32])++(x 1).ex k
 else bif decide (t.kind=17) then ([99,108,111,115,101,40]++(x 0).ex k)++[41]
 else bif decide (t.kind=21) then ([112,114,105,110,116,40]++(x 0).ex k)++[41]
 else bif decide (t.kind=18) then ifX t x k
 else bif decide (t.kind=22) then (([115,101,108,101,99,116,32,123,10]++l.flatMap fun y=>y.cs k)++tabsL k)++[125]
 else bif decide (t.kind=20) then (bif lenK t 0 then [114,101,116,117,114,110] else [114,101,116,117,114,110,32]++(x 0).ex k)
 else bif decide ((Za t 0).kind=9) then [102,111,114,32]++blkX (x 1) k
 else (([102,111,114,32]++(x 0).ex k)++[32])++blkX (x 1) k
def csX(k:Nat):List UInt8:=(bif decide ((Za t 0).kind=9) then tabsL k++[100,101,102,97,117,108,116,58,10] else ((tabsL k++[99,97,115,101,32])++(x 0).st k)++[58,10])++(x 1).ls (k+1)
end
def lsX(l:List Tx)(k:Nat):List UInt8:=l.flatMap fun y=>(tabsL k++y.st k)++[10]
def txF(t:Nd)(l:List Tx):Tx:=⟨exX t (fun i=>l.getD i tx0) l,stX t (fun i=>l.getD i tx0) l,lsX l,csX t (fun i=>l.getD i tx0)⟩
def txT(t:Nd):Tx:=para txF t
/-! the program's way: a line feed ahead of each line -/
abbrev Bs:=List UInt8
def cut:Bs→Bs→Option Bs
 | [],s=>some s
 | _::_,[]=>none
 | a::p,b::s=>bif decide (a=b) then cut p s else none
def hd(s:Bs):UInt8:=s.headD 0
def wdF(s:Bs):Bs:=s.takeWhile alB
def wrF(s:Bs):Bs:=s.dropWhile alB
def dgB(c:UInt8):Bool:=digitB c.toNat
def nb(s:Bs):Bool:=!alB (hd s)
def cutOps:List Bs→Bs→Option (Bs×Bs)
 | [],_=>none
 | o::l,s=>match cut (o++[32]) s with
  | some r=>some (o,r)
  | none=>cutOps l s
def Xvg(s:Bs):Option (Bs×Bs):=match cut [32] s with
 | some r=>cutOps Vra r
 | none=>none
def nd(k:Int)(s:Bs)(n:Int)(ks:List Nd):Nd:=.mk k s n 0 ks ty0 0 0
inductive Md where
  | e|u|s (x:Nd)|a (l:List Nd)|b|l (l:List Nd)|t|i|c (l:List Nd)
def tyP(s:Bs):Option (Nd×Bs):=match cut [42] s with
 | some r=>some (nd 8 (wdF r) 0 [],wrF r)
 | none=>match cut [91,93,105,110,116] s with
  | some r=>some (nd 7 [91,93,105,110,116] 0 [],r)
  | none =>
   bif decide (wdF s=[99,104,97,110]) then (cut [32,105,110,116] (wrF s)).map fun r=>(nd 7 [99,104,97,110] 0 [],r)
   else bif decide (wdF s=[102,117,110,99]) then (cut [40,41] (wrF s)).map fun r=>(nd 7 [102,117,110,99] 0 [],r)
   else some (nd 7 (wdF s) 0 [],wrF s)
section
variable (p:Md→Bs→Option (Nd×Bs))
def atP(s:Bs):Option (Nd×Bs) :=
 match cut [40] s with
 | some r=>(p .e r).bind fun x=>(cut [41] x.2).map fun r=>(x.1,r)
 | none =>
  bif dgB (hd s) then some (nd 24 [] (valN 0 (s.takeWhile dgB)) [],s.dropWhile dgB)
  else bif decide (wdF s=[116,114,117,101]) then some (nd 25 [] 1 [],wrF s)
  else bif decide (wdF s=[102,97,108,115,101]) then some (nd 25 [] 0 [],wrF s)
  else bif decide (wdF s=[110,105,108]) then some (nd 26 [] 0 [],wrF s)
  else bif decide (wdF s=[110,101,119]) then (cut [40] (wrF s)).bind fun r=>(cut [41] (wrF r)).map fun r1=>(nd 34 (wdF r) 0 [],r1)
  else bif decide (wdF s=[109,97,107,101]) then
   match cut [40,91,93,105,110,116,44,32] (wrF s) with
   | some r=>(p .e r).bind fun x=>(cut [41] x.2).map fun r=>(nd 35 [] 0 [x.1],r)
   | none=>(cut [40,99,104,97,110,32,105,110,116,44,32] (wrF s)).bind fun r=>(p .e r).bind fun x=>(cut [41] x.2).map fun r=>(nd 36 [] 0 [x.1],r)
  else bif decide (wdF s=[108,101,110]) then (cut [40] (wrF s)).bind fun r=>(p .e r).bind fun x=>(cut [41] x.2).map fun r=>(nd 37 [] 0 [x.1],r)
  else bif decide (wdF s=[102,117,110,99]) then (cut [40,41,32,123,10] (wrF s)).bind fun r=>(p .b r).map fun x=>(nd 38 [] 0 [x.1],x.2)
  else some (nd 27 (wdF s) 0 [],wrF s)
def unP(s:Bs):Option (Nd×Bs) :=
 match cut [45] s with
 | some r=>(p .u r).map fun x=>(nd 31 [45] 0 [x.1],x.2)
 | none=>match cut [33] s with
  | some r=>(p .u r).map fun x=>(nd 31 [33] 0 [x.1],x.2)
  | none=>match cut [60,45] s with
   | some r=>(p .u r).map fun x=>(nd 33 [] 0 [x.1],x.2)
   | none=>(atP p s).bind fun x=>p (.s x.1) x.2
def exP(s:Bs):Option (Nd×Bs):=(p .u s).bind fun x=>match Xvg x.2 with
 | some o=>(p .u o.2).map fun y=>(nd 32 o.1 0 [x.1,y.1],y.2)
 | none=>some x
def sfP(x:Nd)(s:Bs):Option (Nd×Bs) :=
 match cut [46] s with
 | some r=>p (.s (nd 28 (wdF r) 0 [x])) (wrF r)
 | none=>match cut [91] s with
  | some r=>(p .e r).bind fun y=>(cut [93] y.2).bind fun r=>p (.s (nd 29 [] 0 [x,y.1])) r
  | none=>match cut [40] s with
   | some r=>(p (.a []) r).bind fun l=>p (.s (nd 30 [] 0 (x::l.1.kids))) l.2
   | none=>some (x,s)
def arP(l:List Nd)(s:Bs):Option (Nd×Bs) :=
 match cut [41] s with
 | some r=>some (nd 0 [] 0 l,r)
 | none=>(p .e s).bind fun x=>match cut [44,32] x.2 with
  | some r=>p (.a (l++[x.1])) r
  | none=>(cut [41] x.2).map fun r=>(nd 0 [] 0 (l++[x.1]),r)
def tabsP(s:Bs):Bs:=s.dropWhile fun c=>decide (c=9)
def stopB(s:Bs):Bool:=decide (hd s=125) || anyS [[99,97,115,101],[100,101,102,97,117,108,116]] (wdF s)
def lnP(l:List Nd)(s:Bs):Option (Nd×Bs) :=
 bif stopB (tabsP s) then some (nd 10 [] 0 l,tabsP s)
 else (p .t (tabsP s)).bind fun x=>(cut [10] x.2).bind fun r=>p (.l (l++[x.1])) r
def blP'(s:Bs):Option (Nd×Bs):=(p (.l []) s).bind fun x=>(cut [125] x.2).map fun r=>(x.1,r)
def brP(s:Bs):Option (Nd×Bs):=(cut [123,10] s).bind fun r=>p .b r
def ifP(s:Bs):Option (Nd×Bs):=(p .e s).bind fun x=>(cut [32] x.2).bind fun r=>(brP p r).bind fun y =>
 match cut [32,101,108,115,101,32,105,102,32] y.2 with
 | some r=>(p .i r).map fun z=>(nd 18 [] 0 [x.1,y.1,z.1],z.2)
 | none=>match cut [32,101,108,115,101,32] y.2 with
  | some r=>(brP p r).map fun z=>(nd 18 [] 0 [x.1,y.1,z.1],z.2)
  | none=>some (nd 18 [] 0 [x.1,y.1,nd 9 [] 0 []],y.2)
def csP(l:List Nd)(s:Bs):Option (Nd×Bs) :=
 match cut [125] (tabsP s) with
 | some r=>some (nd 22 [] 0 l,r)
 | none=>match cut [100,101,102,97,117,108,116,58,10] (tabsP s) with
  | some r=>(p (.l []) r).bind fun b=>p (.c (l++[nd 23 [] 0 [nd 9 [] 0 [],b.1]])) b.2
  | none=>(cut [99,97,115,101,32] (tabsP s)).bind fun r=>(p .t r).bind fun x=>(cut [58,10] x.2).bind fun r=>(p (.l []) r).bind fun b=>p (.c (l++[nd 23 [] 0 [x.1,b.1]])) b.2
def oneP(k:Int)(s:Bs):Option (Nd×Bs):=(cut [40] s).bind fun r=>(p .e r).bind fun x=>(cut [41] x.2).map fun r=>(nd k [] 0 [x.1],r)
def spP(k:Int)(s:Bs):Option (Nd×Bs):=(cut [32] s).bind fun r=>(p .e r).map fun x=>(nd k [] 0 [x.1],x.2)
def varP(s:Bs):Option (Nd×Bs):=(cut [32] s).bind fun r=>(cut [32] (wrF r)).bind fun r1=>(tyP r1).bind fun y =>
 match cut [32,61,32] y.2 with
 | some r2=>(p .e r2).map fun z=>(nd 6 (wdF r) 0 [y.1,z.1],z.2)
 | none=>some (nd 6 (wdF r) 0 [y.1,nd 9 [] 0 []],y.2)
def simP(s:Bs):Option (Nd×Bs):=(p .e s).bind fun x =>
 match cut [32,58,61,32] x.2 with
 | some r=>(p .e r).map fun y=>(nd 11 x.1.text 0 [y.1],y.2)
 | none=>match cut [32,61,32] x.2 with
  | some r=>(p .e r).map fun y=>(nd 12 [] 0 [x.1,y.1],y.2)
  | none=>match cut [32,60,45,32] x.2 with
   | some r=>(p .e r).map fun y=>(nd 16 [] 0 [x.1,y.1],y.2)
   | none=>some (nd 13 [] 0 [x.1],x.2)
def stP(s:Bs):Option (Nd×Bs) :=
 match cut [123,10] s with
 | some r=>p .b r
 | none =>
  bif decide (wdF s=[118,97,114]) then varP p (wrF s)
  else bif decide (wdF s=[103,111]) then spP p 14 (wrF s)
  else bif decide (wdF s=[100,101,102,101,114]) then spP p 15 (wrF s)
  else bif decide (wdF s=[99,108,111,115,101]) then oneP p 17 (wrF s)
  else bif decide (wdF s=[112,114,105,110,116]) then oneP p 21 (wrF s)
  else bif decide (wdF s=[105,102]) then (cut [32] (wrF s)).bind fun r=>p .i r
  else bif decide (wdF s=[115,101,108,101,99,116]) then (cut [32,123,10] (wrF s)).bind fun r=>p (.c []) r
  else bif decide (wdF s=[114,101,116,117,114,110]) then match cut [32] (wrF s) with
   | some r=>(p .e r).map fun x=>(nd 20 [] 0 [x.1],x.2)
   | none=>some (nd 20 [] 0 [],wrF s)
  else bif decide (wdF s=[102,111,114]) then match cut [32,123,10] (wrF s) with
   | some r=>(p .b r).map fun x=>(nd 19 [] 0 [nd 9 [] 0 [],x.1],x.2)
   | none=>(cut [32] (wrF s)).bind fun r=>(p .e r).bind fun x=>(cut [32] x.2).bind fun r=>(brP p r).map fun y=>(nd 19 [] 0 [x.1,y.1],y.2)
  else simP p s
def stepP:Md→Bs→Option (Nd×Bs)
 | .e,s=>exP p s
 | .u,s=>unP p s
 | .s x,s=>sfP p x s
 | .a l,s=>arP p l s
 | .b,s=>blP' p s
 | .l l,s=>lnP p l s
 | .t,s=>stP p s
 | .i,s=>ifP p s
 | .c l,s=>csP p l s
end
def pG:Nat→Md→Bs→Option (Nd×Bs)
 | 0=>fun _ _=>none
 | f+1=>stepP (pG f)
section
variable {t:Nd} {x:Nat→Tx} {l:List Tx} {k:Nat}
end
def stW:List Bs:=[[118,97,114],[103,111],[100,101,102,101,114],[99,108,111,115,101],[112,114,105,110,116],[105,102],[115,101,108,101,99,116],[114,101,116,117,114,110],[102,111,114],[99,97,115,101],[100,101,102,97,117,108,116]]
def opn(c:UInt8):Bool:=alB c || (decide (c=40) || (decide (c=45) || (decide (c=33) || decide (c=60))))
structure Hx (s:Bs):Prop where
  o:opn (hd s)=true
  w:anyS stW (wdF s)=false
theorem kids1{t:Nd}(h:t.kids.length=1):t.kids=[Za t 0]:=by
 match hk:t.kids with
 | [a]=>rw [Za,hk];rfl
 | []=>rw [hk] at h;cases h
 | _::_::_=>rw [hk] at h;simp at h
theorem kids3{t:Nd}(h:t.kids.length=3):t.kids=[Za t 0,Za t 1,Za t 2]:=by
 match hk:t.kids with
 | [a,b,c]=>rw [Za,Za,Za,hk];rfl
 | []=>rw [hk] at h;cases h
 | [_]=>rw [hk] at h;cases h
 | [_,_]=>rw [hk] at h;cases h
 | _::_::_::_::_=>rw [hk] at h;simp at h
theorem cn3{t:Nd}(h:t.kids.length=3):count t=1+count (Za t 0)+count (Za t 1)+count (Za t 2):=by rw [Qm,kids3 h];simp;omega
theorem Vzg{s:Bs}(h:opn (hd s)=true){c:UInt8}(hc:opn c=false):hd s≠c:=fun e=>by rw [e,hc] at h;cases h
theorem Hx.ne{s:Bs}(h:Hx s){c:UInt8}(hc:opn c=false):hd s≠c:=Vzg h.o hc
def folB(r:Bs):Bool:=nb r&&(decide (hd r≠46)&&(decide (hd r≠91)&&decide (hd r≠40)))
structure Rx (t:Nd):Prop where
  e:exprB t=true→∀ k r f,folB r=true→Xvg r=none→10*count t≤f+2→pG f .e ((txT t).ex k++r)=some (stripT t,r)
  u:exprB t=true→t.kind≠32→∀ k r f,folB r=true→10*count t≤f+3→pG f .u ((txT t).ex k++r)=some (stripT t,r)
  s:exprB t=true→t.kind≠31→t.kind≠32→t.kind≠33→∀ k r f,nb r=true→10*count t≤f+4→∃ f',f+4≤f'+10*count t∧pG f .u ((txT t).ex k++r)=pG f' (.s (stripT t)) r
  b:blockB t=true→∀ k r f,10*count t≤f+2→pG f .b (((txT t).ls (k+1)++tabsL k)++([125]++r))=some (stripT t,r)
section
variable {p:Md→Bs→Option (Nd×Bs)}
end
def KdX(lo:Nat)(X:List Nat)(w:Aa)(ks:List Nd)(v:Ga):Prop:=Kd w (fun k=>(lo≤k∧k∉X)∧NdR w k) ks v
section
variable {lo lo' n0 j b:Nat} {X:List Nat} {w w':Aa} {ks:List Nd} {v:Ga}
theorem KdN.x(h:KdN lo w ks v)(hX:∀ j∈X,j<lo):KdX lo X w ks v:=Kd.mono h fun k hk _=>⟨⟨hk.1,fun hm=>by have:=hX k hm;omega⟩,hk.2⟩
theorem KdX.kdN(h:KdX lo X w ks v)(hl:lo'≤lo):KdN lo' w ks v:=Kd.mono h fun k hk _=>⟨Aha hl hk.1.1,hk.2⟩
theorem KdX.grow(h:KdX lo X w ks v)(g:G w w'):KdX lo X w' ks v:=Wk h (fun k hk _=>⟨hk.1,hk.2.grow g⟩) fun k hk hlt=>g.block hlt
theorem KdX.gt(h:KdX lo X w ks v)(g:GT mutR n0 w w'):KdX lo X w' ks v:=Wk h (fun k hk _=>⟨hk.1,hk.2.gt g rfl⟩) fun k hk hlt=>g.block k hlt (.inr (hk.2.ntyr rfl))
theorem KdX.keep(h:KdX lo X w ks v)(hg:w.grownBy w' (some j))(hj:j<lo∨j∈X):KdX lo X w' ks v:=by
 have hne:∀ k,(lo≤k∧k∉X)→k≠j:=fun k hk e=>by
  subst e;rcases hj with hj|hj;omega;exact hk.2 hj
 have hs:∀ k,(lo≤k∧k∉X)→k<w.heap.size→w'.heap[k]? = w.heap[k]?:=fun k hk hlt=>hg.block k hlt fun e=>by injection e with e;exact hne k hk e
 exact Wk h (fun k hk hlt=>⟨hk.1,hk.2.same (hs k hk.1 hlt)⟩) fun k hk hlt=>hs k hk.1 hlt
theorem KdX.new{e:Ba}{l:List Ga}(h:KdX lo X w ks v)(N:New w w' b e l):KdX lo (b::X) w' ks v:=by
 have:=N.at_
 exact Wk h (fun k hk hlt=>⟨⟨hk.1.1,fun hm=>by
  rcases Bea.1 hm with e|e;omega;exact hk.1.2 e⟩,hk.2.grow N.g⟩) fun k hk hlt=>N.g.block hlt
theorem KdX.keepb{e:Ba}{l:List Ga}(h:KdX lo X w ks v)(hg:w.grownBy w' (some j))(hB:Blk w j e l)(he:Ada e 26=false):KdX lo X w' ks v:=by
 have hne:∀ k,NdR w k→k≠j:=fun k ⟨cs,fr,hk⟩ q=>by
  subst q;unfold Blk at hB;rw [hB] at hk;injection hk with hk;injection hk with _ hk;subst hk;simp at he
 exact Wk h (fun k hk hlt=>⟨hk.1,hk.2.same (hg.block k hlt fun e=>by injection e with e;exact hne k hk.2 e)⟩) fun k hk hlt=>hg.block k hlt fun e=>by injection e with e;exact hne k hk.2 e
end
theorem OwnN.keept{Y:List Nat}{lo:Nat}{w w':Aa}{ks:List Nd}{s:Ga}{j:Nat}{e:Ba}{l:List Ga}(h:OwnN Y lo w ks s)(hg:w.grownBy w' (some j))(hB:Blk w j e l)(he:Ada e 26=false):OwnN Y lo w' ks s:=by
 have hne:∀ k,NdR w k→k≠j:=fun k ⟨cs,fr,hk⟩ q=>by
  subst q;unfold Blk at hB;rw [hB] at hk;injection hk with hk;injection hk with _ hk;subst hk;simp at he
 have hnd:=h.nd;exact Zwb h (fun k hk hlt=>⟨hk.1,hk.2.same (hg.block k hlt fun e=>by injection e with e;exact hne k hk.2 e)⟩) (fun k hk hlt=>hg.block k hlt fun e=>by injection e with e;exact hne k hk.2 e) fun xs h'=>Yi h' hg (.inr fun e=>hne j (hnd j e) rfl)
theorem Vo{lo m0:Nat}{X Y:List Nat}{w:Aa}{t:Nd}{v s:Ga}(h:KdX lo X w t.kids v)(hm:m0≤lo)(hY:∀ j∈Y,j∈X∨j<lo)(hs:∀ j,s.ownBlock=some j→j∈X∨j<lo):KRow w (fun k=>(Dx m0 Y k∧NdR w k)∧some k≠s.ownBlock) [t] (ndCells t v):=by
 refine Ve (Kd.mono h fun k hk _=>⟨⟨⟨Aha hm hk.1.1,fun hy=>?_⟩,hk.2⟩,fun e=>?_⟩);rcases hY k hy with q|q;exact hk.1.2 q;have:=hk.1.1;omega;rcases hs k e.symm with q|q;exact hk.1.2 q;have:=hk.1.1;omega
@[reducible] def gtR(n0:Nat):RelX:=⟨fun w w'=>GT mutR n0 w w',GT.refl mutR n0,fun h k=>GT.trans h k⟩
theorem Vq{w:Aa}{D:Nat→Prop}{t:Nd}{p:Option Addr}{c:Nat}(hk:Kd w D t.kids (.slice p t.kids.length c)){i:Nat}(h:i<t.kids.length):D (pb p):=by
 obtain ⟨p',c',hpe,_,hks⟩:=hk;injection hpe with hpe _ hce;subst hpe hce;obtain ⟨b2,o2,rfl,hD,_⟩:=hks O;exact hD
theorem Xh{t:Nd}{lo:Nat}{r v:Ga}{w:Aa}(e:r=ndV t v)(h:KdN lo w t.kids v):RetN t lo r w:=e▸Xld h
def CkM'(M:Nat)(F:Nd)(fn:FuncId)(t:Nd)(X:CSt→Nd×CSt):Prop:=∀ {n0 b:Nat} {S:CSt} {w:Aa} {v:Ga} {N:Nat},Chk F n0 b S w→Kd w (fun k=>k<n0) t.kids v→Bd S N→N+count t≤M→
 Ret PP fn #[.pointer (some ⟨b,0,none⟩),ndV t v] w fun r w'=>RetN (X S).1 w.heap.size r w'∧Chk F n0 b (X S).2 w'∧GT mutR n0 w w'
abbrev CkC:=CkM' 1000000
theorem CkC.to{M:Nat}{F:Nd}{fn:FuncId}{t:Nd}{X:CSt→Nd×CSt}(H:CkM' M F fn t X){n0 b:Nat}{S:CSt}{w:Aa}{v:Ga}{N m0:Nat}(Z:List Nat)(h:Chk F n0 b S w)(hk:Kd w (fun k=>k<n0) t.kids v)(hb:Bd S N)(hc:N+count t≤M)(hZ:∀ j∈Z,j<w.heap.size)(hm:m0≤w.heap.size) :
 Ret PP fn #[.pointer (some ⟨b,0,none⟩),ndV t v] w fun r w'=>(∃ p c,r=ndV (X S).1 (.slice p (X S).1.kids.length c)∧m0≤w.heap.size∧KdX w.heap.size Z w' (X S).1.kids (.slice p (X S).1.kids.length c))∧Chk F n0 b (X S).2 w'∧GT mutR n0 w w' :=
 (H h hk hb hc).mono fun r w' hr=>by
 obtain ⟨⟨p,c,e,k⟩,h1,h2⟩:=hr;exact ⟨⟨p,c,e,hm,KdN.x k hZ⟩,h1,h2⟩
def CkM(F:Nd)(t:Nd):Prop:=∀ {n0 b:Nat} {S:CSt} {w:Aa} {v:Ga} {N:Nat},Chk F n0 b S w→Kd w (fun k=>k<n0) t.kids v→Bd S N→N+count t≤1000000→
 Ret PP 148 #[.pointer (some ⟨b,0,none⟩),ndV t v] w fun r w'=>(∃ u,r = .tuple #[u,.bool ((ckT F t).mem S).1.2]∧RetN ((ckT F t).mem S).1.1 w.heap.size u w')∧Chk F n0 b ((ckT F t).mem S).2 w'∧GT mutR n0 w w'
def CkR(F:Nd)(t:Nd):Prop:=∀ {n0 b:Nat} {S:CSt} {w:Aa} {v:Ga} {N:Nat},Chk F n0 b S w→Kd w (fun k=>k<n0) t.kids v→Bd S N→N+count t≤1000000→
 Ret PP 172 #[.pointer (some ⟨b,0,none⟩),ndV t v] w fun r w'=>(∃ u,r = .tuple #[u,.bool ((ckT F t).rcv S).2]∧RetN ((ckT F t).rcv S).1 w.heap.size u w')∧G w w'
def RowT(w:Aa)(l:List Ty)(v:Ga):Prop:=∃ p c,v = .slice p l.length c∧(0<l.length→∃ b o cs fr,p=some ⟨b,o,none⟩∧w.heap[b]? = some (.cells cs 24 fr)∧RowAt w b o (l.flatMap tyCells))
def CkL(F:Nd)(t:Nd):Prop:=∀ {n0 b:Nat} {S:CSt} {w:Aa} {v:Ga} {N:Nat},Chk F n0 b S w→Kd w (fun k=>k<n0) t.kids v→Bd S N→N+count t≤1000000→
 Ret PP 162 #[.pointer (some ⟨b,0,none⟩),ndV t v] w fun r w'=>(∃ u l,r = .tuple #[u,l,tyV ((ckT F t).cal S).1.2.2]∧RetN ((ckT F t).cal S).1.1 w.heap.size u w'∧RowT w' ((ckT F t).cal S).1.2.1 l)∧Chk F n0 b ((ckT F t).cal S).2 w'∧GT mutR n0 w w'
structure CkOk (F t:Nd):Prop where
  ex:exprB t=true→CkC F 121 t (ckT F t).ex
  st:stmtB t=true→CkC F 88 t (ckT F t).st
  blk:blockB t=true→CkC F 117 t (ckT F t).blk
  sts:blockB t=true→CkM' 1000001 F 64 t (ckT F t).sts
  ifs:ifB t=true→CkC F 118 t (ckT F t).ifs
  mem:exprB t=true→t.kind=28→CkM F t
  rcv:exprB t=true→CkR F t
  cal:exprB t=true→CkL F t
def pvCells(v:Vr):List Ga:=[Str v.name,.int .i64 v.typ.kind,Str v.typ.name,.int .i64 v.num,.int .i64 v.level]
theorem Unc(v:Vr):(pvCells v).length=5:=rfl
structure ScR (tv:Ba) (n0:Nat) (w:Aa) (vs:List Ga) (sc:List (List Vr)):Prop where
  len:vs.length=sc.length
  row:∀ (i:Nat) (v:Ga) (l:List Vr),vs[i]? = some v→sc[i]? = some l→w.ownsRow n0 tv 5 v l.length (l.flatMap pvCells)
  dis:∀ (i j:Nat) (v u:Ga),vs[i]? = some v→vs[j]? = some u→i≠j→v.ownBlock=none∨v.ownBlock≠u.ownBlock
section
variable {tv:Ba} {n0:Nat} {w w':Aa} {vs:List Ga} {sc:List (List Vr)}
theorem ScR.at(h:ScR tv n0 w vs sc){i:Nat}(hi:i<sc.length):∃ v,vs[i]? = some v∧w.ownsRow n0 tv 5 v sc[i].length (sc[i].flatMap pvCells):=by
 have hv:i<vs.length:=by rw [h.len];exact hi
 exact ⟨vs[i],Ala hv,h.row i _ _ (Ala hv) (Ala hi)⟩
theorem ScR.ex(h:ScR tv n0 w vs sc){i:Nat}{v:Ga}(hv:vs[i]? = some v):∃ l,sc[i]? = some l∧w.ownsRow n0 tv 5 v l.length (l.flatMap pvCells):=by
 have hi:i<sc.length:=by rw [← h.len];exact (Cla.1 hv).1
 exact ⟨sc[i],Ala hi,h.row i _ _ hv (Ala hi)⟩
theorem ScR.same(h:ScR tv n0 w vs sc)(hs:∀ (i:Nat) (v:Ga),vs[i]? = some v→∀ k,v.ownBlock=some k→w'.heap[k]? = w.heap[k]?):ScR tv n0 w' vs sc :=
 ⟨h.len,fun i v l hv hl=>Zxb (h.row i v l hv hl) (hs i v hv),h.dis⟩
theorem ScR.lt(h:ScR tv n0 w vs sc){i:Nat}{v:Ga}(hv:vs[i]? = some v):∀ k,v.ownBlock=some k→n0≤k∧k<w.heap.size:=by
 obtain ⟨l,_,hr⟩:=h.ex hv;exact hr.lt
theorem ScR.grow(h:ScR tv n0 w vs sc)(g:G w w'):ScR tv n0 w' vs sc:=h.same fun i v hv k hk=>g.block (h.lt hv k hk).2
theorem ScR.keep(h:ScR tv n0 w vs sc){row:Option Nat}(hg:w.grownBy w' row)(hr:∀ k,row=some k→¬ TyR (fun e _=>Ada e tv) w k):ScR tv n0 w' vs sc:=h.same fun i v hv k hk=>by
 obtain ⟨l,_,ho⟩:=h.ex hv;refine hg.block k (h.lt hv k hk).2 fun e=>hr k e.symm ?_;rcases ho.2 with ⟨h1,_⟩|⟨g,cap,cur,h1,h2,h3,_⟩;rw [h1] at hk;cases hk;rw [h1] at hk;have:g=k:=by injection hk
 subst this;exact ⟨_,_,_,h3,Nat.beq_refl _⟩
theorem ScR.push(h:ScR tv n0 w vs sc):ScR tv n0 w (vs++[.slice none 0 0]) (sc++[[]]):=by
 refine ⟨by rw [Ama,Ama,h.len];rfl,fun i v l hv hl=>?_,fun i j v u hv hu hij=>?_⟩;rcases Nat.lt_trichotomy i vs.length with q|q|q;rw [Bda q] at hv;rw [Bda (by rw [← h.len];exact q)] at hl;exact h.row i v l hv hl;subst q;rw [Bwa (Aqa _),Bxa] at hv;rw [h.len,Bwa (Aqa _),Bxa] at hl;injection hv with hv;injection hl with hl;subst hv hl;exact Jk _ _ _ _;rw [Aka (by rw [Ama];show vs.length+1≤i;omega)] at hv;cases hv
 have one:∀ (i:Nat) (v:Ga),(vs++[Value.slice none 0 0])[i]? = some v→v = .slice none 0 0∨(i<vs.length∧vs[i]? = some v):=fun i v hv=>by
  rcases Nat.lt_trichotomy i vs.length with q|q|q;rw [Bda q] at hv;exact .inr ⟨q,hv⟩;subst q;rw [Bwa (Aqa _),Bxa] at hv;injection hv with hv;exact .inl hv.symm;rw [Aka (by rw [Ama];show vs.length+1≤i;omega)] at hv;cases hv
 rcases one i v hv with q|⟨_,q⟩;subst q;exact .inl rfl;rcases one j u hu with q'|⟨_,q'⟩;subst q'
 cases hb:v.ownBlock with
 | none=>exact .inl rfl
 | some k=>exact .inr (fun e=>by cases e)
 exact h.dis i j v u q q' hij
theorem ScR.pop(h:ScR tv n0 w vs sc)(n:Nat):ScR tv n0 w (vs.take n) (sc.take n):=by
 have t:∀ {α:Type} (l:List α) (i:Nat) (a:α),(l.take n)[i]? = some a→l[i]? = some a:=fun l i a hl=>by
  rw [Cka] at hl;split at hl;exact hl;cases hl
 exact ⟨by rw [Apa,Apa,h.len],fun i v l hv hl=>h.row i v l (t _ _ _ hv) (t _ _ _ hl),fun i j v u hv hu hij=>h.dis i j v u (t _ _ _ hv) (t _ _ _ hu) hij⟩
theorem ScR.set(h:ScR tv n0 w vs sc){i:Nat}{v v':Ga}{l':List Vr}(hv:vs[i]? = some v)(hg:w.grownBy w' v.ownBlock)(ho:w'.ownsRow n0 tv 5 v' l'.length (l'.flatMap pvCells))
 (hat:∀ k,v'.ownBlock=some k→v.ownBlock=some k∨w.heap.size≤k):ScR tv n0 w' (vs.set i v') (sc.set i l'):=by
 have hi:i<vs.length:=(Cla.1 hv).1
 have ot:∀ (j:Nat) (u:Ga),j≠i→vs[j]? = some u→v'.ownBlock=none∨v'.ownBlock≠u.ownBlock:=fun j u hj hu=>by
  cases hb:v'.ownBlock with
  | none=>exact .inl rfl
  | some k =>
   refine .inr fun e=>?_;rcases hat k hb with q|q;rcases h.dis i j v u hv hu (Ne.symm hj) with z|z;rw [z] at q;cases q;exact z (q.trans e);have:=(h.lt hu k e.symm).2;omega
 refine ⟨by rw [Bra,Bra,h.len],fun j u l hu hl=>?_,fun j k u z hu hz hjk=>?_⟩;by_cases hj:i=j;subst hj;rw [Bja hi] at hu;rw [Bja (by rw [← h.len];exact hi)] at hl;injection hu with hu;injection hl with hl;subst hu hl;exact ho;rw [Awa hj] at hu hl;refine Zxb (h.row j u l hu hl) fun k hk=>hg.block k (h.lt hu k hk).2 fun e=>?_;rcases h.dis j i u v hu hv (Ne.symm hj) with q|q;rw [q] at hk;cases hk;exact q (hk.trans e);by_cases hj:i=j;subst hj;rw [Bja hi] at hu;rw [Awa hjk] at hz;injection hu with hu;subst hu;exact ot k z (Ne.symm hjk) hz;rw [Awa hj] at hu;by_cases hk:i=k;subst hk;rw [Bja hi] at hz;injection hz with hz;subst hz;rcases ot j u (Ne.symm hj) hu with q|q
 cases hb:u.ownBlock with
 | none=>exact .inl rfl
 | some b=>exact .inr (fun e=>by rw [q] at e;cases e)
 exact .inr (Ne.symm q);rw [Awa hk] at hz;exact h.dis j k u z hu hz hjk
end
set_option maxHeartbeats 1000000
def ckY(F t:Nd)(i:Nat):Ck:=ckT F (Za t i)
set_option maxHeartbeats 1000000
theorem Zme{F t:Nd}(S:CSt):∀ i,i≤t.kids.length→stA (ckX F t) S i=stA (ckY F t) S i
 | 0,_=>rfl
 | i+1,h=>by
  rw [stA,stA,Zme S i O,Xx (show i<t.kids.length by omega)];rfl
theorem Xue(x:Nat→Ck)(S:CSt):∀ i,(stA x S i).1.length=i
 | 0=>rfl
 | i+1=>by
  show ((stA x S i).1++[_]).length=_;rw [Ama,Xue x S i];rfl
theorem Xqf{F t:Nd}(S:CSt)(i:Nat)(h:i≤t.kids.length):Stp (sC t i) S (stA (ckY F t) S i).2:=by
 rw [← Zme S i h];exact Yzd (Xeb F t) S i
set_option maxHeartbeats 1000000
theorem KdX.low{lo lo':Nat}{X:List Nat}{w:Aa}{ks:List Nd}{v:Ga}(h:KdX lo X w ks v)(hl:lo'≤lo):KdX lo' X w ks v:=Kd.mono h fun k hk _=>⟨⟨Aha hl hk.1.1,hk.1.2⟩,hk.2⟩
set_option maxHeartbeats 2000000
theorem CkM.to{F t:Nd}(H:CkM F t){n0 b:Nat}{S:CSt}{w:Aa}{v:Ga}{N m0:Nat}(Z:List Nat)(h:Chk F n0 b S w)(hk:Kd w (fun k=>k<n0) t.kids v)(hb:Bd S N)(hc:N+count t≤1000000)(hZ:∀ j∈Z,j<w.heap.size)(hm:m0≤w.heap.size) :
 Ret PP 148 #[.pointer (some ⟨b,0,none⟩),ndV t v] w fun r w'=>(∃ p c,r = .tuple #[ndV ((ckT F t).mem S).1.1 (.slice p ((ckT F t).mem S).1.1.kids.length c),.bool ((ckT F t).mem S).1.2]∧m0≤w.heap.size∧KdX w.heap.size Z w' ((ckT F t).mem S).1.1.kids (.slice p ((ckT F t).mem S).1.1.kids.length c))∧Chk F n0 b ((ckT F t).mem S).2 w'∧GT mutR n0 w w' :=
 (H h hk hb hc).mono fun r w' hr=>by
 obtain ⟨⟨u,e,p,c,e2,k⟩,h1,h2⟩:=hr;subst e2;exact ⟨⟨p,c,e,hm,KdN.x k hZ⟩,h1,h2⟩
def Byt(w:Aa)(b:Nat)(e:Ba)(l:List UInt8):Prop:=∃ cs lo hi,w.heap[b]? = some (.cells cs e (lo,hi))∧(∀ (j:Nat) (v:Ga),(Lib.byteCells l)[j]? = some v→cs[j]? = some v)∧(hi=0∨l.length≤lo)
theorem Byt.row{w:Aa}{b:Nat}{e:Ba}{l:List UInt8}(h:Byt w b e l):RowAt w b 0 (Lib.byteCells l):=by
 obtain ⟨cs,lo,hi,hb,hc,_⟩:=h;intro j v hj;rw [Bfa];simp [World.cell?,hb,hc j v hj]
theorem Byt.lt{w:Aa}{b:Nat}{e:Ba}{l:List UInt8}(h:Byt w b e l):b<w.heap.size:=by
 obtain ⟨cs,lo,hi,hb,_⟩:=h;exact (Array.getElem?_eq_some_iff.mp hb).1
theorem Byt.keep{w w1:Aa}{b:Nat}{e:Ba}{l:List UInt8}{row:Option Nat}(h:Byt w b e l)(hg:w.grownBy w1 row)(hne:some b≠row):Byt w1 b e l:=by
 have hlt:=h.lt;obtain ⟨cs,lo,hi,hb,hc,hf⟩:=h;exact ⟨cs,lo,hi,by obtain ⟨_,_,_,_,ho⟩:=hg;rw [ho b hlt hne];exact hb,hc,hf⟩
theorem Byt.grow{w w1:Aa}{b:Nat}{e:Ba}{l:List UInt8}(h:Byt w b e l)(hg:G w w1):Byt w1 b e l:=h.keep (hg.only none) (by intro e;cases e)
section
variable {P:Fa} {n:Nat} {σ:List Ent} {c:Prop} {wb:Aa} {ty:Ba}
end
section
variable {P:Fa} {Z:List Da→Act→Aa→Prop} {ops:List Oper} {cl:List Nat} {lv:List Bool} {W0:Aa} {n:Nat} {K:Act→Aa→Prop} {k:Nat} {rest:List Oper} {σ:List Ent} {w:Aa} {d:Nat} {ty:Ba} {pos:String} {after:Array Edge}
theorem Jyc{t e z by_:Nat}(hb:(!Ada (clOf cl k) 0 && !Ada (clOf cl k) 3&&Aya d n)=true)(ht:tyElem P t=some (e,z,by_))
 (h:∀ b w1,b=w.heap.size→(∀ base,base≤w.heap.size→w1.ownsRow base e z (.slice (some ⟨b,0,none⟩) 0 0) 0 [])→G w w1→SR P Z ops cl lv W0 n K (k+1) rest ((d,True,.slice (some ⟨b,0,none⟩) 0 0) :: σ) w1) :
 SR P Z ops cl lv W0 n K k (⟨some d,.buildSlice t 0 #[],ty,pos,after,none⟩::rest) σ w:=by
 obtain ⟨hu,i,hi,hsz,hbyi⟩:=Ub ht;have hN:=Zna w e [];refine Qeb hb (w':=w.alloc (.cells #[] e)) (fun d pos after g a ha _=>?_) (fun _=>hN.g) (h _ _ J (fun base hbase=>World.ownsRow_lit w #[] 0 hbase (Aea _) Os) hN.g);have hr0:Array.range 0 = #[]:=by decide
 simp [execOp,Instr.buildSlice,run_underlying hu,Xtb hi,Instr.fill,newRow,hr0]
theorem Zne{t e z by_ m q cp b:Nat}{x y:Ea}{o:Option Addr}(hb:(Ada (clOf cl k) 2&&Aya d n)=true)(ht:tyElem P t=some (e,z,by_))(hx:Ev n σ True x (.slice (some ⟨b,0,none⟩) m cp))(hm:m≤cp)(hy:Ev n σ True y (.slice o 0 q))
 (h:SR P Z ops cl lv W0 n K (k+1) rest ((d,True,.slice (some ⟨b,0,none⟩) m cp) :: σ) w) :
 SR P Z ops cl lv W0 n K k (⟨some d,.call { callee:=.builtin .append,args:=#[x,y],argTypes:=#[t,t] },ty,pos,after,none⟩::rest) σ w:=by
 obtain ⟨hu,i,hi,hsz,hbyi⟩:=Ub ht;simp only [Aaa] at hb;have hc:=Nat.eq_of_beq_eq_true hb.1;refine Qeb (w':=w) (by rw [hc,hb.2];rfl) (fun d pos after g a ha _=>?_) (fun hh=>O) h
 have hr:(Builtin.append_ #[t,t] ty #[.slice (some ⟨b,0,none⟩) m cp,.slice o 0 q]).run P w = .ok (.slice (some ⟨b,0,none⟩) m cp) w:=by
  cases o <;> simp [Builtin.append_,run_underlying hu,Xtb hi,Builtin.lenOf,Builtin.firstCells,hm,loadCells,loadCellsFrom,storeCells]
 simp only [execOp,resolve,invoke,builtin,Sem.run_bind,Sem.run_pure,Ha,List.map_toArray,Bua,List.map_nil,hx a ha trivial,hy a ha trivial,hr]
end
set_option maxHeartbeats 2000000
set_option maxHeartbeats 2000000
def RowX(lo:Nat)(X:List Nat)(w:Aa)(l:List Ty)(v:Ga):Prop:=∃ p c,v = .slice p l.length c∧(0<l.length→∃ b o cs fr,p=some ⟨b,o,none⟩∧(lo≤b∧b∉X)∧w.heap[b]? = some (.cells cs 24 fr)∧RowAt w b o (l.flatMap tyCells))
section
variable {lo lo' n0 j b:Nat} {X:List Nat} {w w':Aa} {l:List Ty} {v:Ga}
theorem RowX.same(h:RowX lo X w l v){X':List Nat}(hs:∀ b,b<w.heap.size→(∃ cs fr,w.heap[b]? = some (.cells cs 24 fr))→lo≤b→b∉X→b∉X'∧w'.heap[b]? = w.heap[b]?):RowX lo X' w' l v:=by
 obtain ⟨p,c,rfl,h⟩:=h;refine ⟨p,c,rfl,fun h0=>?_⟩;obtain ⟨b,o,cs,fr,rfl,hb,hh,hR⟩:=h h0;obtain ⟨q1,q2⟩:=hs b (Array.getElem?_eq_some_iff.1 hh).1 ⟨cs,fr,hh⟩ hb.1 hb.2;exact ⟨b,o,cs,fr,rfl,⟨hb.1,q1⟩,q2.trans hh,fun i v hi=>(Ka q2).trans (hR i v hi)⟩
theorem RowX.grow(h:RowX lo X w l v)(g:G w w'):RowX lo X w' l v:=h.same fun b hlt _ _ hx=>⟨hx,g.block hlt⟩
theorem RowX.gt(h:RowX lo X w l v)(g:GT mutR n0 w w'):RowX lo X w' l v:=h.same fun b hlt ⟨cs,fr,hh⟩ _ hx=>⟨hx,g.block b hlt (.inr fun ⟨cs',f',fr',h1,h2⟩=>by
 rw [hh] at h1;injection h1 with h1;injection h1 with _ h1;subst h1;exact absurd h2 Bool.false_ne_true)⟩
theorem RowX.keep(h:RowX lo X w l v)(hg:w.grownBy w' (some j))(hj:j<lo∨j∈X):RowX lo X w' l v:=h.same fun b hlt _ hl hx=>⟨hx,hg.block b hlt fun e=>by
 injection e with e;subst e;rcases hj with hj|hj;omega;exact hx hj⟩
theorem RowX.keept{e:Ba}{xs:List Ga}(h:RowX lo X w l v)(hg:w.grownBy w' (some j))(hB:Blk w j e xs)(he:Ada e 24=false):RowX lo X w' l v:=h.same fun b hlt ⟨cs,fr,hh⟩ hl hx=>⟨hx,hg.block b hlt fun q=>by
 injection q with q;subst q;unfold Blk at hB;rw [hB] at hh;injection hh with hh;injection hh with _ hh;subst hh;simp at he⟩
theorem RowX.new{e:Ba}{xs:List Ga}(h:RowX lo X w l v)(N:New w w' b e xs):RowX lo (b::X) w' l v:=h.same fun b' hlt _ hl hx=>⟨fun hm=>by
 have:=N.at_;rcases Bea.1 hm with q|q;omega;exact hx q,N.g.block hlt⟩
theorem RowX.row(h:RowX lo X w l v):RowT w l v:=by
 obtain ⟨p,c,rfl,h⟩:=h;exact ⟨p,c,rfl,fun h0=>by obtain ⟨b,o,cs,fr,e,_,hh,hR⟩:=h h0;exact ⟨b,o,cs,fr,e,hh,hR⟩⟩
theorem RowT.x(h:RowT w l v):RowX 0 [] w l v:=by
 obtain ⟨p,c,rfl,h⟩:=h;exact ⟨p,c,rfl,fun h0=>by obtain ⟨b,o,cs,fr,e,hh,hR⟩:=h h0;exact ⟨b,o,cs,fr,e,⟨Aea _,List.not_mem_nil⟩,hh,hR⟩⟩
theorem Jq:RowX lo X w [] (.slice none 0 0):=⟨none,0,rfl,fun h=>absurd h Od⟩
theorem Wt{k c:Nat}{xs:List Ga}(h:Blk w k 24 xs)(hx:xs=l.flatMap tyCells)(hl:lo≤k):RowX lo [] w l (.slice (some ⟨k,0,none⟩) l.length c):=⟨_,_,rfl,fun _=>⟨k,0,_,_,rfl,⟨hl,List.not_mem_nil⟩,h,hx▸h.row⟩⟩
theorem RowT.at(h:RowT w l (.slice (some ⟨j,b,none⟩) l.length lo))(i:Nat)(hi:i<l.length):RowAt w j (b+i*2) (tyCells l[i]):=by
 obtain ⟨p,c,hv,h⟩:=h;injection hv with e1 _ _;subst e1;obtain ⟨b',o,cs,fr,e,_,hR⟩:=h O;injection e with e;injection e with e1 e2;subst e1;subst e2;exact Zcc (f:=tyCells) (z:=2) Yea hR hi
end
def MthT(lo:Nat)(r:List Ty×Ty×Bool)(v:Ga)(w:Aa):Prop:=∃ l,v = .tuple #[l,tyV r.2.1,.bool r.2.2]∧RowX lo [] w r.1 l
theorem CkR.to{F t:Nd}(H:CkR F t){n0 b:Nat}{S:CSt}{w:Aa}{v:Ga}{N m0:Nat}(Z:List Nat)(h:Chk F n0 b S w)(hk:Kd w (fun k=>k<n0) t.kids v)(hb:Bd S N)(hc:N+count t≤1000000)(hZ:∀ j∈Z,j<w.heap.size)(hm:m0≤w.heap.size) :
 Ret PP 172 #[.pointer (some ⟨b,0,none⟩),ndV t v] w fun r w'=>(∃ p c,r = .tuple #[ndV ((ckT F t).rcv S).1 (.slice p ((ckT F t).rcv S).1.kids.length c),.bool ((ckT F t).rcv S).2]∧m0≤w.heap.size∧KdX w.heap.size Z w' ((ckT F t).rcv S).1.kids (.slice p ((ckT F t).rcv S).1.kids.length c))∧G w w' :=
 (H h hk hb hc).mono fun r w' hr=>by
 obtain ⟨⟨u,e,p,c,e2,k⟩,h1⟩:=hr;subst e2;exact ⟨⟨p,c,e,hm,KdN.x k hZ⟩,h1⟩
set_option maxHeartbeats 4000000
set_option maxHeartbeats 4000000
theorem OwnN.new{X:List Nat}{lo b:Nat}{w w':Aa}{ks:List Nd}{s:Ga}{e:Ba}{l:List Ga}(h:OwnN X lo w ks s)(N:New w w' b e l):OwnN (b::X) lo w' ks s:=by
 have:=N.at_
 exact Zwb h (fun k hk hlt=>⟨⟨hk.1.1,fun hm=>by
  rcases Bea.1 hm with q|q;omega;exact hk.1.2 q⟩,hk.2.grow N.g⟩) (fun k _ hlt=>N.g.block hlt) fun xs h=>Xl h N.g
theorem OwnN.sub{X Y:List Nat}{lo:Nat}{w:Aa}{ks:List Nd}{s:Ga}(h:OwnN X lo w ks s)(hs:∀ b∈Y,b∈X):OwnN Y lo w ks s :=
 Zwb h (fun k hk _=>⟨⟨hk.1.1,fun hm=>hk.1.2 (hs k hm)⟩,hk.2⟩) (fun _ _ _=>rfl) fun xs h=>h
theorem CkL.to{F t:Nd}(H:CkL F t){n0 b:Nat}{S:CSt}{w:Aa}{v:Ga}{N m0:Nat}(Z:List Nat)(h:Chk F n0 b S w)(hk:Kd w (fun k=>k<n0) t.kids v)(hb:Bd S N)(hc:N+count t≤1000000)(hZ:∀ j∈Z,j<w.heap.size)(hm:m0≤w.heap.size) :
 Ret PP 162 #[.pointer (some ⟨b,0,none⟩),ndV t v] w fun r w'=>(∃ p c pl cl,r = .tuple #[ndV ((ckT F t).cal S).1.1 (.slice p ((ckT F t).cal S).1.1.kids.length c),.slice pl ((ckT F t).cal S).1.2.1.length cl,tyV ((ckT F t).cal S).1.2.2]∧m0≤w.heap.size∧KdX w.heap.size Z w' ((ckT F t).cal S).1.1.kids (.slice p ((ckT F t).cal S).1.1.kids.length c)∧RowX 0 [] w' ((ckT F t).cal S).1.2.1 (.slice pl ((ckT F t).cal S).1.2.1.length cl))∧Chk F n0 b ((ckT F t).cal S).2 w'∧GT mutR n0 w w' :=
 (H h hk hb hc).mono fun r w' hr=>by
 obtain ⟨⟨u,l,e,⟨p,c,e2,k⟩,hl⟩,h1,h2⟩:=hr;subst e2;obtain ⟨pl,cl,rfl,_⟩:=id hl;exact ⟨⟨p,c,pl,cl,e,hm,KdN.x k hZ,hl.x⟩,h1,h2⟩
theorem Ubd(t:Nd)(x:Nat→Ck)(ps:List Ty)(S:CSt):∀ i,(argA t x ps S i).1.length=i
 | 0=>rfl
 | i+1=>by
  show ((argA t x ps S i).1++[_]).length=_;rw [Ama,Ubd t x ps S i];rfl
end Go.Rk
