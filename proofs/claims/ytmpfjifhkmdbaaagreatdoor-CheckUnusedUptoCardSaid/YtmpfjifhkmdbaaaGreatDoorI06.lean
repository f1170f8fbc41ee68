/- Merged texts. Conditions: each text's own. -/
import Derived.Test.YtmpfjifhkmdbaaaGreatDoorI02
import Derived.Test.YtmpfjifhkmdbaaaGreatDoorI05
import Derived.Test.YtmpfjifhkmdbaaaGreatDoorI03
import Derived.Test.YtmpfjifhkmdbaaaGreatDoorI04
import Derived.RecoverIn
set_option linter.unusedSimpArgs false
set_option linter.unusedVariables false
set_option maxHeartbeats 16000000
set_option maxRecDepth 100000
open Bool renaming and_eq_true→Aba,and_eq_true_iff→Aja,true_and→Ama,noConfusion→Ata,or_eq_false_iff→Awa
open Go renaming World→Aa,TypeId→Ba,PanicEntry→Da,Operand→Ea,Program→Fa,Value→Ga
open Go.Value renaming slice→Ha
open List renaming mem_cons→Ada,length_append→Aea,all_eq_true→Aga,mem_cons_of_mem→Aha,not_mem_nil→Ala,getElem?_eq_getElem→Ana,take_of_length_le→Aoa,getD_eq_getElem?_getD→Apa,map_append→Aqa,length_map→Ara,take_succ_eq_append_getElem→Asa,length_take→Aua,take_succ_cons→Ava,getElem?_eq_none→Aya,mem_of_getElem?→Aza
open Nat renaming le_refl→Aaa,lt_of_lt_of_le→Aca,zero_add→Afa,zero_le→Aia,beq→Aka,eq_zero_or_pos→Axa
namespace Go.Proofs
end Go.Proofs
namespace Go.Rk
open Go.Proofs
open Go Go.RowKit
theorem op_k{t:Nd}(hx:exprB t=true)(h24:t.kind≠24)(h25:t.kind≠25)(h26:t.kind≠26)(h38:t.kind≠38)(h30:t.kind≠30)(h27:t.kind≠27)(h28:t.kind≠28)(h34:t.kind≠34):t.kind∈([29,31,32,33,35,36,37]:List Int):=by
 have hx:=(Aja.1 hx).1;unfold expK at hx;rw [Zbb] at hx;simp only [Ada,Ala,or_false] at hx ⊢;omega
theorem Xbf{F t:Nd}(HF:FW F)(hx:exprB t=true)(KE:∀ i,i<t.kids.length→exprB (Zb t i)=true→CxM 1000000 F 113 (Zb t i) (ckT F (Zb t i)).ex)(KL:t.kind=38→CxM 1000001 F 57 (Zb t 0) (ckT F (Zb t 0)).sts)(KK:t.kind=30→CxM 1000000 F 141 t (callR t (ckX F t))):CxM 1000000 F 113 t (ckT F t).ex:=by
 intro n0 b TB X r0 S w v N h he hc hkw hb hn;obtain ⟨p,c,rfl,hcap,_⟩:=id hkw;have hk0:=hkw;have hlt:=h.lt;have htb:=h.tb;have hs:=h.scs;have htb2:∀ j∈TB,j<w.heap.size:=fun j hj=>htb.2 j (htb.1 j hj)
 have hcS:∀ i,i<t.kids.length→sC t i+count (Zb t i)+1≤count t:=fun i hi=>by
  have h1:=Vsa t (i+1);have h2:=Xra hi;have h3:sC t (i+1)=sC t i+cN t i:=rfl;omega
 have hkl:=Wn t;have hs1:sC t 1=0+cN t 0:=rfl;have g:=GT.refl (mutC X) n0 w;refine Vi (m:=254) Tryz.func113 J J [(0,True,_),(1,True,_)] (Za J (Za J (Zr _))) ?_;refine BM fun b3 _ ga _ g E=>?_;have hp3:=h;have nlt3:=ga.blk.lt;have h:=Ui h;have hk0:=Ui hk0;refine AN fun b4 _ ga _ g E=>?_;have hp4:=h;have nlt4:=ga.blk.lt;have h:=Ui h;have hk0:=Ui hk0;refine AU ?_;refine CL (Jn t _ _ _) ?_;rintro _ _ ⟨rfl,ga⟩;refine RC fun g E=>?_;have h:=Uk h;have hk0:=Uk hk0;refine AN fun b5 _ ga _ g E=>?_;have hp5:=h;have nlt5:=ga.blk.lt;have h:=Ui h;have hk0:=Ui hk0;refine AS fun _ ga Ca g E=>?_;first|have h:=h.keep ga Ca O (.inl rfl)|have h:=h.keep ga Ca O (.inr ⟨by simp,fun hm=>by have:=htb2 _ hm;omega⟩)
 have hk0:=Ud hk0;refine IF (fun h1=>?_) fun h1=>?_
 ·replace h1:t.kind=24:=Wrg h1
  have ef:=ex_24 (F:=F) (S:=S) h1;refine Zl (Wm Zm J J h.laid.hC.1 (Xg Yk J (Xn J Xv (Zd J) (Zd J) J J E.g0 J J ?_)));intro wS2 hgS2 _ BS;have C5:=E.g0;replace E:=E.s0 hgS2 BS;have g:=Yd g hgS2 O;first|have h:=h.keep hgS2 C5 O (.inl rfl)|have h:=h.keep hgS2 C5 O (.inr ⟨by simp,fun hm=>by have:=htb2 _ hm;omega⟩)
  refine AS fun _ ga Ca g E=>?_;first|have h:=h.keep ga Ca O (.inl rfl)|have h:=h.keep ga Ca O (.inr ⟨by simp,fun hm=>by have:=htb2 _ hm;omega⟩)
  refine RTN ?_;rw [ef];exact ⟨he,Xp (t:=annT t [] tInt) rfl (Yfb _ _),h,g⟩
 replace h1:t.kind≠24:=Wsg h1;refine IF (fun h2=>?_) fun h2=>?_
 ·replace h2:t.kind=25:=Wrg h2
  have ef:=ex_25 (F:=F) (S:=S) h2;refine Zl (Wm Zm J J h.laid.hC.2.1 (Xg Yk J (Xn J Xv (Zd J) (Zd J) J J E.g0 J J ?_)));intro wS4 hgS4 _ BS;have C5:=E.g0;replace E:=E.s0 hgS4 BS;have g:=Yd g hgS4 O;first|have h:=h.keep hgS4 C5 O (.inl rfl)|have h:=h.keep hgS4 C5 O (.inr ⟨by simp,fun hm=>by have:=htb2 _ hm;omega⟩)
  refine AS fun _ ga Ca g E=>?_;first|have h:=h.keep ga Ca O (.inl rfl)|have h:=h.keep ga Ca O (.inr ⟨by simp,fun hm=>by have:=htb2 _ hm;omega⟩)
  refine RTN ?_;rw [ef];exact ⟨he,Xp (t:=annT t [] tBool) rfl (Yfb _ _),h,g⟩
 replace h2:t.kind≠25:=Wsg h2;refine IF (fun h3=>?_) fun h3=>?_
 ·replace h3:t.kind=26:=Wrg h3
  have ef:=ex_26 (F:=F) (S:=S) h3;refine Zl (Wm Zm J J h.laid.hC.2.2.1 (Xg Yk J (Xn J Xv (Zd J) (Zd J) J J E.g0 J J ?_)));intro wS6 hgS6 _ BS;have C5:=E.g0;replace E:=E.s0 hgS6 BS;have g:=Yd g hgS6 O;first|have h:=h.keep hgS6 C5 O (.inl rfl)|have h:=h.keep hgS6 C5 O (.inr ⟨by simp,fun hm=>by have:=htb2 _ hm;omega⟩)
  refine AS fun _ ga Ca g E=>?_;first|have h:=h.keep ga Ca O (.inl rfl)|have h:=h.keep ga Ca O (.inr ⟨by simp,fun hm=>by have:=htb2 _ hm;omega⟩)
  refine RTN ?_;rw [ef];exact ⟨he,Xp (t:=annT t [] tNil) rfl (Yfb _ _),h,g⟩
 replace h3:t.kind≠26:=Wsg h3;refine IF (fun h4=>?_) fun h4=>?_
 ·replace h4:t.kind=38:=Wrg h4
  obtain ⟨hl,z0⟩:=sh38 h4 hx;have hc0:=hcS 0 O;have ef:=ex_38 (F:=F) (S:=S) h4 hl;obtain ⟨hpe,p_38,c_38,hcell,hkid⟩:=Yq hk0 (i:=0) O;refine AU ?_;refine Y3 J Qoa J J J (Xid (KL h4) [b3,b4,b5] h he hc hkid hb O (E.ltm Ob) g.size) ((fun ch w' hz=>Bad.pass hz (by rw [ef];exact Er.refl _) (Aaa _) g)) ?_;rintro v41 w41 ⟨⟨p41,c41,rfl,q41,k41⟩,he41,h,g41⟩;refine ⟨nw1,?_⟩;have g:=gtw g g41;replace E:=E.gtx g41;refine CN fun _ _ ga l42 g E=>?_;have hp42:=h;have nlt42:=ga.blk.lt;have k41:=Uj k41;have h:=Ui h;refine AS fun _ ga Ca g E=>?_;first|have h:=h.keep ga Ca O (.inl rfl)|have h:=h.keep ga Ca O (.inr ⟨by simp,fun hm=>by have:=htb2 _ hm;omega⟩)
  have k41:=k41.keep ga Oi;refine Ze (kq (Zl (Wm Zm J J h.laid.hC.2.2.2.2.2 (Xg Yk J (Xn J Xv (Zd J) (Zd J) J J E.g1 J J ?_)))));intro wS9 hgS9 _ BS;have C5:=E.g1;replace E:=E.s1 hgS9 BS;have g:=Yd g hgS9 O;first|have h:=h.keep hgS9 C5 O (.inl rfl)|have h:=h.keep hgS9 C5 O (.inr ⟨by simp,fun hm=>by have:=htb2 _ hm;omega⟩)
  have k41:=k41.keep hgS9 Oi;refine AS fun _ ga Ca g E=>?_;first|have h:=h.keep ga Ca O (.inl rfl)|have h:=h.keep ga Ca O (.inr ⟨by simp,fun hm=>by have:=htb2 _ hm;omega⟩)
  have k41:=k41.keep ga Oi;refine RTN ?_;rw [ef];exact ⟨he41,Xp (t:=annT t [_] tFunc) rfl (Zga (ks:=[_]) ⟨l42,Jl E.g0⟩ E.g0.row (Vd (k41.kdN q41)) (Aaa _)),h,g⟩
 replace h4:t.kind≠38:=Wsg h4;refine IF (fun h5=>?_) fun h5=>?_
 ·replace h5:t.kind=27:=Wrg h5
  have ef:=ex_27 (F:=F) (S:=S) h5;have hnum:numS t=0:=by unfold numS Wvb;rw [Wmg O,Wmg O];rfl
  refine AU ?_;refine Y2 J Jr J J (Ync t _ _ h hb O HF.res hnum) ((fun ch w' hz=>bad_5 h he (by rw [ef,hz.1];exact Er.refl _) hz.2.1 hz.2.2 g)) ?_;rintro _ _ ⟨hl50,rfl,ga⟩;refine RC fun g E=>?_;have h:=Uk h;rw [hl50] at ef;refine AS fun _ ga Ca g E=>?_;first|have h:=h.keep ga Ca O (.inl rfl)|have h:=h.keep ga Ca O (.inr ⟨by simp,fun hm=>by have:=htb2 _ hm;omega⟩)
  refine AU ?_;refine Xh (rowR none) [3,0,1,3,0,1] [0,1,3,0,8,31] mix KR [0,1,2,3,4,5] J ?_;have g:=gtd g;replace E:=E.dr;have h:=h.grow (G.drew _);refine Zx 0 J J (fun _=>Zi Yk (Zd J)) (Yi 1 J J (fun w1 hx=>Zo Zm (Zd J) J (fun _=>(E.g0.keep hx (fun h=>nomatch h)).row.part 5 2)) (Zx 3 J J (fun _=>Zi Xz (Zd J)) (Yi 4 J J (fun w1 hx=>Zq Yf (Zd J) (fun _=>(E.g2.keep hx (fun h=>nomatch h)).at_ J)) (Zt 2 J J ?_))));refine Zn (L':=[5]) [3,0,1,3,0,1] J J J ?_;refine CP (Xza (lookR F S t).1.ty _ h.laid.hL h.laid.hb) (fun w53 g53=>?_);have g:=gtg g g53;replace E:=E.grow g53;have h:=h.grow (g53);refine Zy ((g53).only _) ?_;refine Zt 5 J J ?_;refine Zn (L':=[]) [3,0,1,3,0,1] J J J ?_;refine Y3 J Ye J J J (Vf _ _ _ _) ((fun ch w' hz=>Ul h he Od (by rw [ef];exact Er.refl _) hz g (Aaa _))) ?_;rintro v56 w56 ⟨rfl,hq56,g56⟩;refine ⟨fun _=>g56,?_⟩;have g:=gtg g g56;replace E:=E.grow g56;have h:=h.grow (g56);rw [hq56] at ef;refine Zy ((g56).only _) ?_;refine TK [4,5] ?_;refine AS fun _ ga Ca g E=>?_;first|have h:=h.keep ga Ca O (.inl rfl)|have h:=h.keep ga Ca O (.inr ⟨by simp,fun hm=>by have:=htb2 _ hm;omega⟩)
  refine RTN ?_;rw [ef];exact ⟨he,Ygc _ _ _ (Yoc F S t),h,g⟩
 replace h5:t.kind≠27:=Wsg h5;refine IF (fun h6=>?_) fun h6=>?_
 ·replace h6:t.kind=28:=Wrg h6
  obtain ⟨_,hl,z0⟩:=sh28 h6 hx;have hc0:=hcS 0 O;have ef:=ex_28 (F:=F) (S:=S) h6 hl;have hst:=(Uh F (Zb t 0)).ex S;have hcT:=((Qxa F (Zb t 0)).ex S hs).can hc;obtain ⟨hpe,p_62,c_62,hcell,hkid⟩:=Yq hk0 (i:=0) O;refine AU ?_;refine Y2 J Xt J J (CxM.to (KE 0 O z0) [b3,b4,b5] h he hc hkid hb O (E.ltm Ob) g.size) ((fun ch w' hz=>Bad.pass hz (by rw [ef];exact (Er.if1 ((Er.refl _).if1 ((Er.refl _).fail _ _)) ((Er.refl _).fail _ _)).failu _ _ _) (Aaa _) g)) ?_;rintro v64 w64 ⟨⟨p64,c64,rfl,q64,k64⟩,he64,h,g64⟩;refine ⟨nw1,?_⟩;have g:=gtw g g64;replace E:=E.gtx g64;refine AN fun _ _ ga _ g E=>?_;have hp6:=h;have nlt6:=ga.blk.lt;have k64:=Uj k64;have h:=Ui h;refine AS fun _ ga Ca g E=>?_;first|have h:=h.keep ga Ca O (.inl rfl)|have h:=h.keep ga Ca O (.inr ⟨by simp,fun hm=>by have:=htb2 _ hm;omega⟩)
  have k64:=k64.keep ga Oi;refine AU ?_;refine CL (Jmc ((ckT F (Zb t 0)).ex S).1 _ t.text h) ?_;rintro _ _ ⟨rfl,ga⟩;refine RC fun g E=>?_;have h:=Uk h;have k64:=Uk k64;refine AN fun _ _ N7 _ g E=>?_;have hp7:=h;have nlt7:=N7.blk.lt;have k64:=k64.new N7;have h:=h.grow (N7.g);have h:=hp7.addX N7;refine AS fun _ ga Ca g E=>?_;first|have h:=h.keep ga Ca O (.inl rfl)|have h:=h.keep ga Ca O (.inr ⟨by simp,fun hm=>by have:=htb2 _ hm;omega⟩)
  have k64:=k64.keep ga Oi;refine AU ?_;refine Y3 J Ye J J J (Vf _ _ _ _) ((fun ch w' hz=>Ul (h.sub (Y:=X) htb.1 (by intro j hj;simp [hj])) he64 Od (by rw [ef,hz.1];exact (Er.refl _).failu _ _ _) hz g (by rw [hst.scope];exact Aaa _))) ?_;rintro _ _ ⟨rfl,hq77,ga⟩;refine RC fun g E=>?_;have h:=Uk h;have k64:=Uk k64;rw [hq77,Wug] at ef;refine AU ?_;refine Y3 J Ye J J J (Vf _ _ _ _) ((fun ch w' hz=>Ul (h.sub (Y:=X) htb.1 (by intro j hj;simp [hj])) he64 Od (by rw [ef,hz.1];exact (Er.refl _).failu _ _ _) hz g (by rw [hst.scope];exact Aaa _))) ?_;rintro _ _ ⟨rfl,hq81,ga⟩;refine RC fun g E=>?_;have h:=Uk h;have k64:=Uk k64;rw [hq81,Wug,Ama,Bool.not_not] at ef;refine AU ?_;refine Xh (rowR none) [0,1,3,0,1] [0,1,0,4,15] mix KR [0,1,2,3,4] J ?_;have g:=gtd g;replace E:=E.dr;have h:=h.grow (G.drew _);have k64:=k64.grow (G.drew _);refine Yi 0 J J (fun w1 hx=>Zo Zm (Zd J) J (fun _=>(E.g0.keep hx (fun h=>nomatch h)).row)) (Zx 2 J J (fun _=>Zi Xz (Zd J)) (Yi 3 J J (fun w1 hx=>Zq Yf (Zd J) (fun _=>(E.g4.keep hx (fun h=>nomatch h)).at_ J)) (Zt 1 J J ?_)));refine Zn (L':=[4]) [0,1,3,0,1] J J J ?_;refine CP (Xza (fldR F ((ckT F (Zb t 0)).ex S).1.ty t.text).1 _ h.laid.hL h.laid.hb) (fun w83 g83=>?_);have g:=gtg g g83;replace E:=E.grow g83;have h:=h.grow (g83);have k64:=k64.grow (g83);refine Zy ((g83).only _) ?_;refine Zt 4 J J ?_;refine Zn (L':=[]) [0,1,3,0,1] J J J ?_;refine Y3 J Ye J J J (Vf _ _ _ _) ((fun ch w' hz=>Ul (h.sub (Y:=X) htb.1 (by intro j hj;simp [hj])) he64 Od (by rw [ef];exact Er.refl _) hz g (by rw [hst.scope];exact Aaa _))) ?_
  rintro v86 w86 ⟨rfl,hq86,g86⟩;refine ⟨fun _=>g86,?_⟩;have g:=gtg g g86;replace E:=E.grow g86;have h:=h.grow (g86);have k64:=k64.grow (g86);rw [hq86] at ef;refine Zy ((g86).only _) ?_;refine TK [4,5,6,7] ?_;refine AU ?_;refine Xh (rowR (some b5)) [0,1,0,3,1,3,1] [0,1,0,3,11,31,63] mix KR [0,1,2,3,4,5,6] J ?_;have g:=gtd g;replace E:=E.dr;have h:=h.grow (G.drew _);have k64:=k64.grow (G.drew _);refine Yi 0 J J (fun w1 hx=>Zo Zf (Zd J) J (fun _=>(E.g1.keep hx (fun h=>E.ne 1 2 J J J (Option.some.inj h))).row)) (Yi 2 J J (fun w1 hx=>Zo Zm (Zd J) J (fun _=>(E.g0.keep hx (fun h=>E.ne 0 2 J J J (Option.some.inj h))).row)) (Zt 1 J J ?_));refine Zn (L':=[3,4,5,6]) [0,1,0,3,2,3,2] J J J ?_;refine CN fun _ _ N88 l88 g E=>?_;have hp88:=h;have nlt88:=N88.blk.lt;have k64:=k64.new N88;have h:=h.grow (N88.g);refine Zy ((N88.g).only _) ?_;refine Zx 3 J J (fun _=>Zi Zh (Zd J)) (Zt 4 J J ?_);refine Zn (L':=[5,6]) [0,1,0,3,2,3,2] J J J ?_;refine AS fun _ hgS15 Ca g E=>?_;first|have h:=h.keep hgS15 Ca O (.inl rfl)|have h:=h.keep hgS15 Ca O (.inr ⟨by simp,fun hm=>by have:=htb2 _ hm;omega⟩)
  have k64:=k64.keep hgS15 Oi;refine Zy (hgS15) ?_;refine Zx 5 J J (fun _=>Zi Yk (Zd J)) (Zt 6 J J ?_);refine Zn (L':=[]) [0,1,0,3,2,3,2] J J J ?_;refine Xn J Xv (Zd J) (Zd J) J J E.g3 J J ?_;intro wS16 hgS16 _ BS;have C5:=E.g3;replace E:=E.s3 hgS16 BS;have g:=Yd g hgS16 O;first|have h:=h.keep hgS16 C5 O (.inl rfl)|have h:=h.keep hgS16 C5 O (.inr ⟨by simp,fun hm=>by have:=htb2 _ hm;omega⟩)
  have k64:=k64.keep hgS16 Oi;refine Zy (hgS16) ?_;refine TK [4,5] ?_;refine AS fun _ ga Ca g E=>?_;first|have h:=h.keep ga Ca O (.inl rfl)|have h:=h.keep ga Ca O (.inr ⟨by simp,fun hm=>by have:=htb2 _ hm;omega⟩)
  have k64:=k64.keep ga Oi;refine RTN ?_;rw [ef];exact ⟨he64,Xp (t:=annT t [_] _) rfl (Zga (ks:=[_]) ⟨l88,Jl E.g0⟩ E.g0.row (Vd (k64.kdN q64)) (Aaa _)),h.sub htb.1 (by intro j hj;simp [hj]),g⟩
 replace h6:t.kind≠28:=Wsg h6;refine IF (fun h7=>?_) fun h7=>?_
 ·replace h7:t.kind=29:=Wrg h7
  obtain ⟨hl,z0,z1⟩:=sh29 h7 hx;have hc0:=hcS 0 O;have hc1:=hcS 1 O;have hs2:cN t 0=count (Zb t 0):=Xra O;have ef:=ex_29 (F:=F) (S:=S) h7 hl;have hst:=(Uh F (Zb t 0)).ex S;have hcT:=((Qxa F (Zb t 0)).ex S hs).can hc;refine AU ?_;refine Xh (rowR none) [3,3,0,3,0,0,2,1,2] [0,0,2,6,14,0,63,0,255] mix KR [0,1,2,3,4,5,6,7,8] J ?_;have g:=gtd g;replace E:=E.dr;have h:=h.grow (G.drew _);have hk0:=hk0.grow (G.drew _);refine Zx 0 J J (fun _=>Zw (Zd J)) (Zx 1 J J (fun _=>Zi Zh (Zd J)) (Yi 2 J J (fun w1 hx=>Zq Zg (Zd J) (fun _=>(E.g2.keep hx (fun h=>nomatch h)).at_ J)) (?_)));obtain ⟨hpe,p_97,c_97,hcell,hkid⟩:=Yq hk0 (i:=0) O;refine Zx 3 J J (fun _=>Yv Zc (Zd J) Xa (fun _=>O) (fun _=>hpe)) (Yi 4 J J (fun w1 hx=>Zo Zf (Zd J) J (fun _=>by first|exact hcell.kn hx|exact hcell.gt hx (Vu hk0 (i:=0) O)|exact hcell.gto hx (Vu hk0 (i:=0) O) (by have:=Vu hk0 (i:=0) O;simp;omega))) (Yi 5 J J (fun w1 hx=>Zo Zm Jea J (fun _=>by first|exact h.laid.hC.2.2.2.1.kn hx|exact h.laid.hC.2.2.2.1.kb hx (by have:=h.laid.hG;omega)|exact h.laid.hC.2.2.2.1.gt hx (by have:=h.laid.hG;omega)|exact h.laid.hC.2.2.2.1.gto hx (by have:=h.laid.hG;omega) (by have:=h.laid.hG;simp;omega))) (Zpb 6 7 J J ?_ ?_)))
  ·refine Xb (L':=[7,8]) [3,3,0,3,0,0,2,1,2] rfl rfl rfl rfl ?_
   refine Y3 J Xj J J J (Qs (k:=5) (KE 0 O z0) (Vua F _) Od [b3,b4,b5] h he hc hkid hb O (E.ltm Ob) g.size) ((fun ch w' hz=>Bad.pass hz (by rw [ef];exact ((Uh F (Zb t 1)).ex _).e.failu _ _ _) (Aaa _) g)) ?_;rintro v100 w100 ⟨⟨p100,c100,rfl,q100,k100⟩,he100,eW,h,g100⟩;refine ⟨nw1,?_⟩;have g:=gtw g g100;replace E:=E.gtx g100;have hk0:=hk0.gt g100 (fun k h=>h);rw [eW] at he100 ef;have hb:=hst.bd _ hb;refine Xx ?_;refine Zt 7 J J ?_;refine Zn (L':=[8]) [3,3,0,3,0,0,2,1,2] J J J ?_;refine AN fun b10 _ N10 l10 g E=>?_;have hp10:=h;have nlt10:=N10.blk.lt;have k100:=k100.new N10;have h:=h.grow (N10.g);have hk0:=hk0.grow (N10.g);refine Zy ((N10.g).only _) ?_;refine Zt 8 J J ?_;refine Xb (L':=[]) [3,3,0,3,0,0,2,1,2] J J J J ?_;refine AS fun _ ga Ca g E=>?_;first|have h:=h.keep ga Ca O (.inl rfl)|have h:=h.keep ga Ca O (.inr ⟨by simp,fun hm=>by have:=htb2 _ hm;omega⟩)
   have hk0:=Ud hk0;have k100:=k100.keep ga Oi;refine Xx ?_;refine TK [0,3,4,5,10] ?_;refine AU ?_;refine Xh (gtoR X n0 [b5]) [0,3,3,0,3,0,0,1,1,0,3,1,3,1] [0,0,0,4,12,28,0,126,255,0,511,1535,4095,8191] mix KR [0,1,2,3,4,5,6,7,8,9,10,11,12,13] J ?_;have g:=gtd g;replace E:=E.dr;have h:=h.grow (G.drew _);have hk0:=hk0.grow (G.drew _);have hcell:=hcell.grow (G.drew _);have hkid:=hkid.grow (G.drew _);have k100:=k100.grow (G.drew _);refine Yi 0 J J (fun w1 hx=>Zo Zf (Zd J) J (fun _=>(E.g0.gto hx J (Uec (E.ne 0 1 J J J) Udc)).row)) (Zx 1 J J (fun _=>Zw (Zd J)) (Zx 2 J J (fun _=>Zi Zh (Zd J)) (Yi 3 J J (fun w1 hx=>Zq Zg (Zd J) (fun _=>(E.g3.gto hx J (Uec (E.ne 3 1 J J J) Udc)).at_ J)) (?_))));obtain ⟨hpe,p_105,c_105,hcell,hkid⟩:=Yq hk0 (i:=1) O
   refine Zx 4 J J (fun _=>Yv Zc (Zd J) Xa (fun _=>O) (fun _=>hpe)) (Yi 5 J J (fun w1 hx=>Zo Zf (Zd J) J (fun _=>by first|exact hcell.kn hx|exact hcell.gt hx (Vu hk0 (i:=1) O)|exact hcell.gto hx (Vu hk0 (i:=1) O) (by have:=Vu hk0 (i:=1) O;simp;omega))) (Yi 6 J J (fun w1 hx=>Zo Zm Jea J (fun _=>by first|exact h.laid.hC.1.kn hx|exact h.laid.hC.1.kb hx (by have:=h.laid.hG;omega)|exact h.laid.hC.1.gt hx (by have:=h.laid.hG;omega)|exact h.laid.hC.1.gto hx (by have:=h.laid.hG;omega) (by have:=h.laid.hG;simp;omega))) (Yi 9 J J (fun w1 hx=>Zo Zm Jea J (fun _=>by first|exact h.laid.hC.1.kn hx|exact h.laid.hC.1.kb hx (by have:=h.laid.hG;omega)|exact h.laid.hC.1.gt hx (by have:=h.laid.hG;omega)|exact h.laid.hC.1.gto hx (by have:=h.laid.hG;omega) (by have:=h.laid.hG;simp;omega))) (Zt 7 J J ?_))));refine Zn (L':=[8,10,11,12,13]) [0,3,3,0,3,0,0,2,1,0,3,2,3,2] J J J ?_;refine Y3 J Xj J J J (Qs (k:=1) (KE 1 O z1) (Vua F _) Od [b3,b4,b5,b10] h he100 hcT hkid hb O (E.ltm Ob) g.size) ((fun ch w' hz=>Bad.pass hz (by rw [ef];exact Er.refl _) (by rw [hst.scope];exact Aaa _) g)) ?_;rintro v108 w108 ⟨⟨p108,c108,rfl,q108,k108⟩,he108,eW2,h,g108⟩;refine ⟨nw1,?_⟩;have g:=gtw g g108;replace E:=E.gtx g108;have k100:=k100.gtc g108;rw [eW2] at he108 ef;refine Zy (GTO.of_gt g108) ?_;refine Zt 8 J J ?_;refine Zn (L':=[10,11,12,13]) [0,3,3,0,3,0,0,2,1,0,3,2,3,2] J J J ?_;refine CN fun _ _ N109 l109 g E=>?_;have hp109:=h;have nlt109:=N109.blk.lt;have k100:=k100.new N109;have k108:=k108.new N109;have h:=h.grow (N109.g);refine Zy (GTO.of_g (N109.g)) ?_
   refine Zx 10 J J (fun _=>Zi Zh (Zd J)) (Zt 11 J J ?_);refine Zn (L':=[12,13]) [0,3,3,0,3,0,0,2,1,0,3,2,3,2] J J J ?_;refine AS fun _ hgS19 Ca g E=>?_;first|have h:=h.keep hgS19 Ca O (.inl rfl)|have h:=h.keep hgS19 Ca O (.inr ⟨by simp,fun hm=>by have:=htb2 _ hm;omega⟩)
   have k100:=k100.keep hgS19 Oi;have k108:=k108.keep hgS19 Oi;refine Zy (GTO.of_row hgS19 Os) ?_;refine Zx 12 J J (fun _=>Zi Yk (Zd J)) (Zt 13 J J ?_);refine Zn (L':=[]) [0,3,3,0,3,0,0,2,1,0,3,2,3,2] J J J ?_;refine Xn J Xv (Zd J) (Zd J) J J E.g2 J J ?_;intro wS20 hgS20 _ BS;have C5:=E.g2;replace E:=E.s2 hgS20 BS;have g:=Yd g hgS20 O;first|have h:=h.keep hgS20 C5 O (.inl rfl)|have h:=h.keep hgS20 C5 O (.inr ⟨by simp,fun hm=>by have:=htb2 _ hm;omega⟩)
   have k100:=k100.keep hgS20 Oi;have k108:=k108.keep hgS20 Oi;refine Zy (GTO.of_row hgS20 Os) ?_;refine TK [4,5] ?_;refine AS fun _ ga Ca g E=>?_;first|have h:=h.keep ga Ca O (.inl rfl)|have h:=h.keep ga Ca O (.inr ⟨by simp,fun hm=>by have:=htb2 _ hm;omega⟩)
   have k100:=k100.keep ga Oi;have k108:=k108.keep ga Oi;refine RTN ?_;rw [ef];exact ⟨he108,Xp (t:=annT t [_,_] tInt) rfl (Zga (ks:=[_,_]) ⟨l109,Jl E.g0⟩ E.g0.row (Uo (k100.kdN q100) (Vd (k108.kdN q108))) (Aaa _)),h,g⟩
  ·refine Zn (L':=[6,8]) [3,3,0,3,0,0,2,1,2] rfl rfl rfl ?_
   refine AN fun b10 _ N10 _ g E=>?_;have hp10:=h;have nlt10:=N10.blk.lt;have h:=h.grow (N10.g);have hk0:=hk0.grow (N10.g);have hcell:=hcell.grow (N10.g);have hkid:=hkid.grow (N10.g);refine Zy ((N10.g).only _) ?_;refine Zt 6 J J ?_;refine Xb (L':=[8]) [3,3,0,3,0,0,2,1,2] J J J J ?_;refine Y3 J Xj J J J (Qs (k:=5) (KE 0 O z0) (Vua F _) Od [b3,b4,b5] h he hc hkid hb O (E.ltm Ob) g.size) ((fun ch w' hz=>Bad.pass hz (by rw [ef];exact ((Uh F (Zb t 1)).ex _).e.failu _ _ _) (Aaa _) g)) ?_;rintro v100 w100 ⟨⟨p100,c100,rfl,q100,k100⟩,he100,eW,h,g100⟩;refine ⟨nw1,?_⟩;have g:=gtw g g100;replace E:=E.gtx g100;have hk0:=hk0.gt g100 (fun k h=>h);rw [eW] at he100 ef;have hb:=hst.bd _ hb;refine Xx ?_;refine Zt 8 J J ?_;refine Xb (L':=[]) [3,3,0,3,0,0,2,1,2] J J J J ?_;refine AS fun _ ga Ca g E=>?_;first|have h:=h.keep ga Ca O (.inl rfl)|have h:=h.keep ga Ca O (.inr ⟨by simp,fun hm=>by have:=htb2 _ hm;omega⟩)
   have hk0:=Ud hk0;have k100:=k100.keep ga Oi;refine Xx ?_;refine TK [0,3,4,5,10] ?_;refine AU ?_;refine Xh (gtoR X n0 [b5]) [0,3,3,0,3,0,0,1,1,0,3,1,3,1] [0,0,0,4,12,28,0,126,255,0,511,1535,4095,8191] mix KR [0,1,2,3,4,5,6,7,8,9,10,11,12,13] J ?_;have g:=gtd g;replace E:=E.dr;have h:=h.grow (G.drew _);have hk0:=hk0.grow (G.drew _);have hcell:=hcell.grow (G.drew _);have hkid:=hkid.grow (G.drew _);have k100:=k100.grow (G.drew _);refine Yi 0 J J (fun w1 hx=>Zo Zf (Zd J) J (fun _=>(E.g0.gto hx J (Uec (E.ne 0 1 J J J) Udc)).row)) (Zx 1 J J (fun _=>Zw (Zd J)) (Zx 2 J J (fun _=>Zi Zh (Zd J)) (Yi 3 J J (fun w1 hx=>Zq Zg (Zd J) (fun _=>(E.g3.gto hx J (Uec (E.ne 3 1 J J J) Udc)).at_ J)) (?_))));obtain ⟨hpe,p_105,c_105,hcell,hkid⟩:=Yq hk0 (i:=1) O
   refine Zx 4 J J (fun _=>Yv Zc (Zd J) Xa (fun _=>O) (fun _=>hpe)) (Yi 5 J J (fun w1 hx=>Zo Zf (Zd J) J (fun _=>by first|exact hcell.kn hx|exact hcell.gt hx (Vu hk0 (i:=1) O)|exact hcell.gto hx (Vu hk0 (i:=1) O) (by have:=Vu hk0 (i:=1) O;simp;omega))) (Yi 6 J J (fun w1 hx=>Zo Zm Jea J (fun _=>by first|exact h.laid.hC.1.kn hx|exact h.laid.hC.1.kb hx (by have:=h.laid.hG;omega)|exact h.laid.hC.1.gt hx (by have:=h.laid.hG;omega)|exact h.laid.hC.1.gto hx (by have:=h.laid.hG;omega) (by have:=h.laid.hG;simp;omega))) (Yi 9 J J (fun w1 hx=>Zo Zm Jea J (fun _=>by first|exact h.laid.hC.1.kn hx|exact h.laid.hC.1.kb hx (by have:=h.laid.hG;omega)|exact h.laid.hC.1.gt hx (by have:=h.laid.hG;omega)|exact h.laid.hC.1.gto hx (by have:=h.laid.hG;omega) (by have:=h.laid.hG;simp;omega))) (Zt 7 J J ?_))));refine Zn (L':=[8,10,11,12,13]) [0,3,3,0,3,0,0,2,1,0,3,2,3,2] J J J ?_;refine Y3 J Xj J J J (Qs (k:=1) (KE 1 O z1) (Vua F _) Od [b3,b4,b5,b10] h he100 hcT hkid hb O (E.ltm Ob) g.size) ((fun ch w' hz=>Bad.pass hz (by rw [ef];exact Er.refl _) (by rw [hst.scope];exact Aaa _) g)) ?_;rintro v108 w108 ⟨⟨p108,c108,rfl,q108,k108⟩,he108,eW2,h,g108⟩;refine ⟨nw1,?_⟩;have g:=gtw g g108;replace E:=E.gtx g108;have k100:=k100.gtc g108;rw [eW2] at he108 ef;refine Zy (GTO.of_gt g108) ?_;refine Zt 8 J J ?_;refine Zn (L':=[10,11,12,13]) [0,3,3,0,3,0,0,2,1,0,3,2,3,2] J J J ?_;refine CN fun _ _ N109 l109 g E=>?_;have hp109:=h;have nlt109:=N109.blk.lt;have k100:=k100.new N109;have k108:=k108.new N109;have h:=h.grow (N109.g);refine Zy (GTO.of_g (N109.g)) ?_
   refine Zx 10 J J (fun _=>Zi Zh (Zd J)) (Zt 11 J J ?_);refine Zn (L':=[12,13]) [0,3,3,0,3,0,0,2,1,0,3,2,3,2] J J J ?_;refine AS fun _ hgS19 Ca g E=>?_;first|have h:=h.keep hgS19 Ca O (.inl rfl)|have h:=h.keep hgS19 Ca O (.inr ⟨by simp,fun hm=>by have:=htb2 _ hm;omega⟩)
   have k100:=k100.keep hgS19 Oi;have k108:=k108.keep hgS19 Oi;refine Zy (GTO.of_row hgS19 Os) ?_;refine Zx 12 J J (fun _=>Zi Yk (Zd J)) (Zt 13 J J ?_);refine Zn (L':=[]) [0,3,3,0,3,0,0,2,1,0,3,2,3,2] J J J ?_;refine Xn J Xv (Zd J) (Zd J) J J E.g2 J J ?_;intro wS20 hgS20 _ BS;have C5:=E.g2;replace E:=E.s2 hgS20 BS;have g:=Yd g hgS20 O;first|have h:=h.keep hgS20 C5 O (.inl rfl)|have h:=h.keep hgS20 C5 O (.inr ⟨by simp,fun hm=>by have:=htb2 _ hm;omega⟩)
   have k100:=k100.keep hgS20 Oi;have k108:=k108.keep hgS20 Oi;refine Zy (GTO.of_row hgS20 Os) ?_;refine TK [4,5] ?_;refine AS fun _ ga Ca g E=>?_;first|have h:=h.keep ga Ca O (.inl rfl)|have h:=h.keep ga Ca O (.inr ⟨by simp,fun hm=>by have:=htb2 _ hm;omega⟩)
   have k100:=k100.keep ga Oi;have k108:=k108.keep ga Oi;refine RTN ?_;rw [ef];exact ⟨he108,Xp (t:=annT t [_,_] tInt) rfl (Zga (ks:=[_,_]) ⟨l109,Jl E.g0⟩ E.g0.row (Uo (k100.kdN q100) (Vd (k108.kdN q108))) (Aaa _)),h,g⟩
 replace h7:t.kind≠29:=Wsg h7;refine IF (fun h8=>?_) fun h8=>?_
 ·replace h8:t.kind=31:=Wrg h8
  obtain ⟨_,hl,z0⟩:=sh31 h8 hx;have hc0:=hcS 0 O;have ef:=ex_31 (F:=F) (S:=S) h8 hl;have hst:=(Uh F (Zb t 0)).ex S;have hcT:=((Qxa F (Zb t 0)).ex S hs).can hc;have hcan:=(Voc F (Zb t 0)).ex S hs hc;have eu:unTy t=bif decide (t.text=[33]) then tBool else tInt:=rfl;obtain ⟨hpe,p_118,c_118,hcell,hkid⟩:=Yq hk0 (i:=0) O;refine AU ?_;refine Y2 J Xt J J (CxM.to (KE 0 O z0) [b3,b4,b5] h he hc hkid hb O (E.ltm Ob) g.size) ((fun ch w' hz=>Bad.pass hz (by rw [ef];exact (Er.refl _).failu _ _ _) (Aaa _) g)) ?_;rintro v120 w120 ⟨⟨p120,c120,rfl,q120,k120⟩,he120,h,g120⟩;refine ⟨nw1,?_⟩;have g:=gtw g g120;replace E:=E.gtx g120;refine AN fun _ _ ga _ g E=>?_;have hp11:=h;have nlt11:=ga.blk.lt;have k120:=Uj k120;have h:=Ui h;refine AS fun _ ga Ca g E=>?_;first|have h:=h.keep ga Ca O (.inl rfl)|have h:=h.keep ga Ca O (.inr ⟨by simp,fun hm=>by have:=htb2 _ hm;omega⟩)
  have k120:=k120.keep ga Oi;refine Ze (kq (Zj (Zl (Wm Zm J J h.laid.hC.1 (Xg Yk J (Xn J Xv (Zd J) (Zd J) J J E.g1 J J ?_))))));intro wS23 hgS23 _ BS;have C5:=E.g1;replace E:=E.s1 hgS23 BS;have g:=Yd g hgS23 O;first|have h:=h.keep hgS23 C5 O (.inl rfl)|have h:=h.keep hgS23 C5 O (.inr ⟨by simp,fun hm=>by have:=htb2 _ hm;omega⟩)
  have k120:=k120.keep hgS23 Oi;refine IF (fun h9=>?_) fun h9=>?_
  ·rw [show decide (t.text=[33])=true from h9] at eu
   have ew:wantS ((ckT F (Zb t 0)).ex S).1 (unTy t).kind t.pos ((ckT F (Zb t 0)).ex S).2=failU (tyEqB ((ckT F (Zb t 0)).ex S).1.ty (unTy t)) t.pos 7 ((ckT F (Zb t 0)).ex S).2:=by
    rw [eu];show failU (decide (((ckT F (Zb t 0)).ex S).1.ty.kind=2)) t.pos 7 _=failU (tyEqB _ ⟨2,[]⟩) t.pos 7 _;rw [Qdb hcan Od]
   replace eu:unTy t=tBool:=eu;rw [ew,eu] at ef;refine Zl (Wm Zm J J h.laid.hC.2.1 (Xg Yk J (Xn J Xv (Zd J) (Zd J) J J E.g1 J J ?_)));intro wS24 hgS24 _ BS;have C5:=E.g1;replace E:=E.s1 hgS24 BS;have g:=Yd g hgS24 O;first|have h:=h.keep hgS24 C5 O (.inl rfl)|have h:=h.keep hgS24 C5 O (.inr ⟨by simp,fun hm=>by have:=htb2 _ hm;omega⟩)
   have k120:=k120.keep hgS24 Oi;refine AU ?_;refine Xh (rowR none) [3,0,3,0,3,3,0,1] [0,1,0,4,15,0,32,127] mix KR [0,1,2,3,4,5,6,7] J ?_;have g:=gtd g;replace E:=E.dr;have h:=h.grow (G.drew _);have k120:=k120.grow (G.drew _);refine Zx 0 J J (fun _=>Zi Yk (Zd J)) (Yi 1 J J (fun w1 hx=>Zo Zm (Zd J) J (fun _=>(E.g0.keep hx (fun h=>nomatch h)).row.part 5 2)) (Zx 2 J J (fun _=>Zi Yk (Zd J)) (Yi 3 J J (fun w1 hx=>Zo Zm (Zd J) J (fun _=>(E.g1.keep hx (fun h=>nomatch h)).row.part 5 2)) (Zx 4 J J (fun _=>Qx Wo (Zd J) (Zd J) J) (Zx 5 J J (fun _=>Zi Xz (Zd J)) (Yi 6 J J (fun w1 hx=>Zq Yf (Zd J) (fun _=>(E.g3.keep hx (fun h=>nomatch h)).at_ J)) (Zt 7 J J ?_)))))));refine Zn (L':=[]) [3,0,3,0,3,3,0,1] J J J ?_;refine Y3 J Ye J J J (Vf _ _ _ _) ((fun ch w' hz=>Ul h he120 Od (by rw [ef];exact Er.refl _) hz g (by rw [hst.scope];exact Aaa _))) ?_;rintro v135 w135 ⟨rfl,hq135,g135⟩;refine ⟨fun _=>g135,?_⟩;have g:=gtg g g135;replace E:=E.grow g135;have h:=h.grow (g135);have k120:=k120.grow (g135);refine Zy ((g135).only _) ?_;refine TK [4,5,11] ?_;refine CN fun _ _ ga l137 g E=>?_;have hp137:=h;have nlt137:=ga.blk.lt;have k120:=Uj k120;have h:=Ui h;refine AS fun _ ga Ca g E=>?_;first|have h:=h.keep ga Ca O (.inl rfl)|have h:=h.keep ga Ca O (.inr ⟨by simp,fun hm=>by have:=htb2 _ hm;omega⟩)
   have k120:=k120.keep ga Oi;refine AS fun _ ga Ca g E=>?_;first|have h:=h.keep ga Ca O (.inl rfl)|have h:=h.keep ga Ca O (.inr ⟨by simp,fun hm=>by have:=htb2 _ hm;omega⟩)
   have k120:=k120.keep ga Oi;refine RTN ?_;rw [ef,show tyEqB ((ckT F (Zb t 0)).ex S).1.ty _=true from hq135];exact ⟨he120,Xp (t:=annT t [_] _) rfl (Zga (ks:=[_]) ⟨l137,Jl E.g0⟩ E.g0.row (Vd (k120.kdN q120)) (Aaa _)),h,g⟩
  rw [show decide (t.text=[33])=false from h9] at eu
  have ew:wantS ((ckT F (Zb t 0)).ex S).1 (unTy t).kind t.pos ((ckT F (Zb t 0)).ex S).2=failU (tyEqB ((ckT F (Zb t 0)).ex S).1.ty (unTy t)) t.pos 7 ((ckT F (Zb t 0)).ex S).2:=by
   rw [eu];show failU (decide (((ckT F (Zb t 0)).ex S).1.ty.kind=1)) t.pos 7 _=failU (tyEqB _ ⟨1,[]⟩) t.pos 7 _;rw [Qdb hcan Od]
  replace eu:unTy t=tInt:=eu;rw [ew,eu] at ef;refine AU ?_;refine Xh (rowR none) [3,0,3,0,3,3,0,1] [0,1,0,4,15,0,32,127] mix KR [0,1,2,3,4,5,6,7] J ?_;have g:=gtd g;replace E:=E.dr;have h:=h.grow (G.drew _);have k120:=k120.grow (G.drew _);refine Zx 0 J J (fun _=>Zi Yk (Zd J)) (Yi 1 J J (fun w1 hx=>Zo Zm (Zd J) J (fun _=>(E.g0.keep hx (fun h=>nomatch h)).row.part 5 2)) (Zx 2 J J (fun _=>Zi Yk (Zd J)) (Yi 3 J J (fun w1 hx=>Zo Zm (Zd J) J (fun _=>(E.g1.keep hx (fun h=>nomatch h)).row.part 5 2)) (Zx 4 J J (fun _=>Qx Wo (Zd J) (Zd J) J) (Zx 5 J J (fun _=>Zi Xz (Zd J)) (Yi 6 J J (fun w1 hx=>Zq Yf (Zd J) (fun _=>(E.g3.keep hx (fun h=>nomatch h)).at_ J)) (Zt 7 J J ?_)))))));refine Zn (L':=[]) [3,0,3,0,3,3,0,1] J J J ?_;refine Y3 J Ye J J J (Vf _ _ _ _) ((fun ch w' hz=>Ul h he120 Od (by rw [ef];exact Er.refl _) hz g (by rw [hst.scope];exact Aaa _))) ?_;rintro v135 w135 ⟨rfl,hq135,g135⟩;refine ⟨fun _=>g135,?_⟩;have g:=gtg g g135;replace E:=E.grow g135;have h:=h.grow (g135);have k120:=k120.grow (g135);refine Zy ((g135).only _) ?_;refine TK [4,5,11] ?_;refine CN fun _ _ ga l137 g E=>?_;have hp137:=h;have nlt137:=ga.blk.lt;have k120:=Uj k120;have h:=Ui h;refine AS fun _ ga Ca g E=>?_;first|have h:=h.keep ga Ca O (.inl rfl)|have h:=h.keep ga Ca O (.inr ⟨by simp,fun hm=>by have:=htb2 _ hm;omega⟩)
  have k120:=k120.keep ga Oi;refine AS fun _ ga Ca g E=>?_;first|have h:=h.keep ga Ca O (.inl rfl)|have h:=h.keep ga Ca O (.inr ⟨by simp,fun hm=>by have:=htb2 _ hm;omega⟩)
  have k120:=k120.keep ga Oi;refine RTN ?_;rw [ef,show tyEqB ((ckT F (Zb t 0)).ex S).1.ty _=true from hq135];exact ⟨he120,Xp (t:=annT t [_] _) rfl (Zga (ks:=[_]) ⟨l137,Jl E.g0⟩ E.g0.row (Vd (k120.kdN q120)) (Aaa _)),h,g⟩
 replace h8:t.kind≠31:=Wsg h8;refine IF (fun h10=>?_) fun h10=>?_
 ·replace h10:t.kind=32:=Wrg h10
  obtain ⟨_,hl,z0,z1⟩:=sh32 h10 hx;have hc0:=hcS 0 O;have hc1:=hcS 1 O;have hs2:cN t 0=count (Zb t 0):=Xra O;have ef:=ex_32 (F:=F) (S:=S) h10 hl;have hst:=(Uh F (Zb t 0)).ex S;have hcT:=((Qxa F (Zb t 0)).ex S hs).can hc;obtain ⟨hpe,p_144,c_144,hcell,hkid⟩:=Yq hk0 (i:=0) O;refine AU ?_;refine Y2 J Xt J J (CxM.to (KE 0 O z0) [b3,b4,b5] h he hc hkid hb O (E.ltm Ob) g.size) ((fun ch w' hz=>Bad.pass hz (by rw [ef];exact ((Uh F (Zb t 1)).ex _).e.failu _ _ _) (Aaa _) g)) ?_;rintro v146 w146 ⟨⟨p146,c146,rfl,q146,k146⟩,he146,h,g146⟩;refine ⟨nw1,?_⟩;have g:=gtw g g146;replace E:=E.gtx g146;have hk0:=hk0.gt g146 (fun k h=>h);have hb:=hst.bd _ hb;refine AN fun b12 _ ga _ g E=>?_;have hp12:=h;have nlt12:=ga.blk.lt;have k146:=Uj k146;have h:=Ui h;have hk0:=Ui hk0;refine AS fun _ ga Ca g E=>?_;first|have h:=h.keep ga Ca O (.inl rfl)|have h:=h.keep ga Ca O (.inr ⟨by simp,fun hm=>by have:=htb2 _ hm;omega⟩)
  have hk0:=Ud hk0;have k146:=k146.keep ga Oi;obtain ⟨hpe,p_150,c_150,hcell,hkid⟩:=Yq hk0 (i:=1) O;refine AU ?_;refine Y2 J Xt J J (CxM.to (KE 1 O z1) [b3,b4,b5,b12] h he146 hcT hkid hb O (E.ltm Ob) g.size) ((fun ch w' hz=>Bad.pass hz (by rw [ef];exact (Er.refl _).failu _ _ _) (by rw [hst.scope];exact Aaa _) g)) ?_;rintro v152 w152 ⟨⟨p152,c152,rfl,q152,k152⟩,he152,h,g152⟩;refine ⟨nw1,?_⟩;have g:=gtw g g152;replace E:=E.gtx g152;have k146:=k146.gtc g152;refine AN fun _ _ ga _ g E=>?_;have hp13:=h;have nlt13:=ga.blk.lt;have k146:=Uj k146;have k152:=Uj k152;have h:=Ui h;refine AS fun _ ga Ca g E=>?_;first|have h:=h.keep ga Ca O (.inl rfl)|have h:=h.keep ga Ca O (.inr ⟨by simp,fun hm=>by have:=htb2 _ hm;omega⟩)
  have k146:=k146.keep ga Oi;have k152:=k152.keep ga Oi;refine AU ?_;refine CP (Vqf t.text ((ckT F (Zb t 0)).ex S).1.ty ((ckT F (Zb t 1)).ex ((ckT F (Zb t 0)).ex S).2).1.ty _ h.laid.hL h.laid.hb) (fun w160 g160=>?_);have g:=gtg g g160;replace E:=E.grow g160;have h:=h.grow (g160);have k146:=k146.grow (g160);have k152:=k152.grow (g160);refine AN fun _ _ N14 _ g E=>?_;have hp14:=h;have nlt14:=N14.blk.lt;have k146:=k146.new N14;have k152:=k152.new N14;have h:=h.grow (N14.g);have h:=hp14.addX N14;refine AS fun _ ga Ca g E=>?_;first|have h:=h.keep ga Ca O (.inl rfl)|have h:=h.keep ga Ca O (.inr ⟨by simp,fun hm=>by have:=htb2 _ hm;omega⟩)
  have k146:=k146.keep ga Oi;have k152:=k152.keep ga Oi;refine AU ?_;refine Y3 J Ye J J J (Vf _ _ _ _) ((fun ch w' hz=>Ul (h.sub (Y:=X) htb.1 (by intro j hj;simp [hj])) he152 Od (by rw [ef];exact Er.refl _) hz g (by rw [((Uh F (Zb t 1)).ex _).scope,hst.scope];exact Aaa _))) ?_;rintro _ _ ⟨rfl,hq166,ga⟩;refine RC fun g E=>?_;have h:=Uk h;have k146:=Uk k146;have k152:=Uk k152;rw [hq166] at ef;refine AU ?_;refine Xh (rowR (some b5)) [0,0,1,0,3,1,3,1] [0,0,3,0,7,23,63,127] mix KR [0,1,2,3,4,5,6,7] J ?_;have g:=gtd g;replace E:=E.dr;have h:=h.grow (G.drew _);have k146:=k146.grow (G.drew _);have k152:=k152.grow (G.drew _);refine Yi 0 J J (fun w1 hx=>Zo Zf (Zd J) J (fun _=>(E.g2.keep hx (fun h=>E.ne 2 3 J J J (Option.some.inj h))).row)) (Yi 1 J J (fun w1 hx=>Zo Zf (Zd J) J (fun _=>(E.g1.keep hx (fun h=>E.ne 1 3 J J J (Option.some.inj h))).row)) (Yi 3 J J (fun w1 hx=>Zo Zm (Zd J) J (fun _=>(E.g0.keep hx (fun h=>E.ne 0 3 J J J (Option.some.inj h))).row)) (Zt 2 J J ?_)));refine Zn (L':=[4,5,6,7]) [0,0,1,0,3,2,3,2] J J J ?_;refine CN fun _ _ N169 l169 g E=>?_;have hp169:=h;have nlt169:=N169.blk.lt;have k146:=k146.new N169;have k152:=k152.new N169;have h:=h.grow (N169.g);refine Zy ((N169.g).only _) ?_;refine Zx 4 J J (fun _=>Zi Zh (Zd J)) (Zt 5 J J ?_);refine Zn (L':=[6,7]) [0,0,1,0,3,2,3,2] J J J ?_;refine AS fun _ hgS29 Ca g E=>?_;first|have h:=h.keep hgS29 Ca O (.inl rfl)|have h:=h.keep hgS29 Ca O (.inr ⟨by simp,fun hm=>by have:=htb2 _ hm;omega⟩)
  have k146:=k146.keep hgS29 Oi;have k152:=k152.keep hgS29 Oi;refine Zy (hgS29) ?_;refine Zx 6 J J (fun _=>Zi Yk (Zd J)) (Zt 7 J J ?_);refine Zn (L':=[]) [0,0,1,0,3,2,3,2] J J J ?_;refine Xn J Xv (Zd J) (Zd J) J J E.g4 J J ?_;intro wS30 hgS30 _ BS;have C5:=E.g4;replace E:=E.s4 hgS30 BS;have g:=Yd g hgS30 O;first|have h:=h.keep hgS30 C5 O (.inl rfl)|have h:=h.keep hgS30 C5 O (.inr ⟨by simp,fun hm=>by have:=htb2 _ hm;omega⟩)
  have k146:=k146.keep hgS30 Oi;have k152:=k152.keep hgS30 Oi;refine Zy (hgS30) ?_;refine TK [4,5] ?_;refine AS fun _ ga Ca g E=>?_;first|have h:=h.keep ga Ca O (.inl rfl)|have h:=h.keep ga Ca O (.inr ⟨by simp,fun hm=>by have:=htb2 _ hm;omega⟩)
  have k146:=k146.keep ga Oi;have k152:=k152.keep ga Oi;refine RTN ?_;rw [ef];exact ⟨he152,Xp (t:=annT t [_,_] _) rfl (Zga (ks:=[_,_]) ⟨l169,Jl E.g0⟩ E.g0.row (Uo (k146.kdN q146) (Vd (k152.kdN q152))) (Aaa _)),h.sub htb.1 (by intro j hj;simp [hj]),g⟩
 replace h10:t.kind≠32:=Wsg h10;refine IF (fun h11=>?_) fun h11=>?_
 ·replace h11:t.kind=33:=Wrg h11
  obtain ⟨hl,z0⟩:=sh33 h11 hx;have hc0:=hcS 0 O;have ef:=ex_33 (F:=F) (S:=S) h11 hl;have hst:=(Uh F (Zb t 0)).ex S;have hcT:=((Qxa F (Zb t 0)).ex S hs).can hc;have hcan:=(Voc F (Zb t 0)).ex S hs hc;unfold wantS at ef;rw [← Qdb hcan (k:=6) Od] at ef;obtain ⟨hpe,p_178,c_178,hcell,hkid⟩:=Yq hk0 (i:=0) O;refine AU ?_;refine Y2 J Xt J J (CxM.to (KE 0 O z0) [b3,b4,b5] h he hc hkid hb O (E.ltm Ob) g.size) ((fun ch w' hz=>Bad.pass hz (by rw [ef];exact (Er.refl _).failu _ _ _) (Aaa _) g)) ?_;rintro v180 w180 ⟨⟨p180,c180,rfl,q180,k180⟩,he180,h,g180⟩;refine ⟨nw1,?_⟩;have g:=gtw g g180;replace E:=E.gtx g180;refine AN fun _ _ ga _ g E=>?_;have hp16:=h;have nlt16:=ga.blk.lt;have k180:=Uj k180;have h:=Ui h;refine AS fun _ ga Ca g E=>?_;first|have h:=h.keep ga Ca O (.inl rfl)|have h:=h.keep ga Ca O (.inr ⟨by simp,fun hm=>by have:=htb2 _ hm;omega⟩)
  have k180:=k180.keep ga Oi;refine AU ?_;refine Xh (rowR none) [3,0,0,3,3,0,1] [0,1,0,7,0,16,63] mix KR [0,1,2,3,4,5,6] J ?_;have g:=gtd g;replace E:=E.dr;have h:=h.grow (G.drew _);have k180:=k180.grow (G.drew _);refine Zx 0 J J (fun _=>Zi Yk (Zd J)) (Yi 1 J J (fun w1 hx=>Zo Zm (Zd J) J (fun _=>(E.g0.keep hx (fun h=>nomatch h)).row.part 5 2)) (Yi 2 J J (fun w1 hx=>Zo Zm Jea J (fun _=>by first|exact h.laid.hC.2.2.2.2.1.kn hx|exact h.laid.hC.2.2.2.2.1.kb hx (by have:=h.laid.hG;omega)|exact h.laid.hC.2.2.2.2.1.gt hx (by have:=h.laid.hG;omega)|exact h.laid.hC.2.2.2.2.1.gto hx (by have:=h.laid.hG;omega) (by have:=h.laid.hG;simp;omega))) (Zx 3 J J (fun _=>Qx Wo (Zd J) (Zd J) J) (Zx 4 J J (fun _=>Zi Xz (Zd J)) (Yi 5 J J (fun w1 hx=>Zq Yf (Zd J) (fun _=>(E.g3.keep hx (fun h=>nomatch h)).at_ J)) (Zt 6 J J ?_))))));refine Zn (L':=[]) [3,0,0,3,3,0,1] J J J ?_;refine Y3 J Ye J J J (Vf _ _ _ _) ((fun ch w' hz=>Ul h he180 Od (by rw [ef];exact Er.refl _) hz g (by rw [hst.scope];exact Aaa _))) ?_;rintro v187 w187 ⟨rfl,hq187,g187⟩;refine ⟨fun _=>g187,?_⟩;have g:=gtg g g187;replace E:=E.grow g187;have h:=h.grow (g187);have k180:=k180.grow (g187);rw [show tyEqB ((ckT F (Zb t 0)).ex S).1.ty ⟨6,[]⟩=true from hq187] at ef;refine Zy ((g187).only _) ?_;refine TK [4,5,16] ?_;refine AU ?_;refine Xh (rowR (some b5)) [0,1,0,3,1,3,1] [0,1,0,3,11,31,63] mix KR [0,1,2,3,4,5,6] J ?_;have g:=gtd g;replace E:=E.dr;have h:=h.grow (G.drew _);have k180:=k180.grow (G.drew _)
  refine Yi 0 J J (fun w1 hx=>Zo Zf (Zd J) J (fun _=>(E.g0.keep hx (fun h=>E.ne 0 1 J J J (Option.some.inj h))).row)) (Yi 2 J J (fun w1 hx=>Zo Zm Jea J (fun _=>by first|exact h.laid.hC.1.kn hx|exact h.laid.hC.1.kb hx (by have:=h.laid.hG;omega)|exact h.laid.hC.1.gt hx (by have:=h.laid.hG;omega)|exact h.laid.hC.1.gto hx (by have:=h.laid.hG;omega) (by have:=h.laid.hG;simp;omega))) (Zt 1 J J ?_));refine Zn (L':=[3,4,5,6]) [0,1,0,3,2,3,2] J J J ?_;refine CN fun _ _ N189 l189 g E=>?_;have hp189:=h;have nlt189:=N189.blk.lt;have k180:=k180.new N189;have h:=h.grow (N189.g);refine Zy ((N189.g).only _) ?_;refine Zx 3 J J (fun _=>Zi Zh (Zd J)) (Zt 4 J J ?_);refine Zn (L':=[5,6]) [0,1,0,3,2,3,2] J J J ?_;refine AS fun _ hgS33 Ca g E=>?_;first|have h:=h.keep hgS33 Ca O (.inl rfl)|have h:=h.keep hgS33 Ca O (.inr ⟨by simp,fun hm=>by have:=htb2 _ hm;omega⟩)
  have k180:=k180.keep hgS33 Oi;refine Zy (hgS33) ?_;refine Zx 5 J J (fun _=>Zi Yk (Zd J)) (Zt 6 J J ?_);refine Zn (L':=[]) [0,1,0,3,2,3,2] J J J ?_;refine Xn J Xv (Zd J) (Zd J) J J E.g2 J J ?_;intro wS34 hgS34 _ BS;have C5:=E.g2;replace E:=E.s2 hgS34 BS;have g:=Yd g hgS34 O;first|have h:=h.keep hgS34 C5 O (.inl rfl)|have h:=h.keep hgS34 C5 O (.inr ⟨by simp,fun hm=>by have:=htb2 _ hm;omega⟩)
  have k180:=k180.keep hgS34 Oi;refine Zy (hgS34) ?_;refine TK [4,5] ?_;refine AS fun _ ga Ca g E=>?_;first|have h:=h.keep ga Ca O (.inl rfl)|have h:=h.keep ga Ca O (.inr ⟨by simp,fun hm=>by have:=htb2 _ hm;omega⟩)
  have k180:=k180.keep ga Oi;refine RTN ?_;rw [ef];exact ⟨he180,Xp (t:=annT t [_] tInt) rfl (Zga (ks:=[_]) ⟨l189,Jl E.g0⟩ E.g0.row (Vd (k180.kdN q180)) (Aaa _)),h,g⟩
 replace h11:t.kind≠33:=Wsg h11;refine IF (fun h12=>?_) fun h12=>?_
 ·replace h12:t.kind=37:=Wrg h12
  obtain ⟨hl,z0⟩:=sh37 h12 hx;have hc0:=hcS 0 O;have ef:=ex_37 (F:=F) (S:=S) h12 hl;refine Xh (gtoR X n0 [b5]) [3,3,0,3,0,0,1,1,0,3,1,3,1] [0,0,2,6,14,0,63,127,0,255,767,2047,4095] mix KR [0,1,2,3,4,5,6,7,8,9,10,11,12] J ?_;have g:=gtd g;replace E:=E.dr;have h:=h.grow (G.drew _);have hk0:=hk0.grow (G.drew _);refine Zx 0 J J (fun _=>Zw (Zd J)) (Zx 1 J J (fun _=>Zi Zh (Zd J)) (Yi 2 J J (fun w1 hx=>Zq Zg (Zd J) (fun _=>(E.g2.gto hx J (Uec (E.ne 2 0 J J J) Udc)).at_ J)) (?_)));obtain ⟨hpe,p_198,c_198,hcell,hkid⟩:=Yq hk0 (i:=0) O;refine Zx 3 J J (fun _=>Yv Zc (Zd J) Xa (fun _=>O) (fun _=>hpe)) (Yi 4 J J (fun w1 hx=>Zo Zf (Zd J) J (fun _=>by first|exact hcell.kn hx|exact hcell.gt hx (Vu hk0 (i:=0) O)|exact hcell.gto hx (Vu hk0 (i:=0) O) (by have:=Vu hk0 (i:=0) O;simp;omega))) (Yi 5 J J (fun w1 hx=>Zo Zm Jea J (fun _=>by first|exact h.laid.hC.2.2.2.1.kn hx|exact h.laid.hC.2.2.2.1.kb hx (by have:=h.laid.hG;omega)|exact h.laid.hC.2.2.2.1.gt hx (by have:=h.laid.hG;omega)|exact h.laid.hC.2.2.2.1.gto hx (by have:=h.laid.hG;omega) (by have:=h.laid.hG;simp;omega))) (Yi 8 J J (fun w1 hx=>Zo Zm Jea J (fun _=>by first|exact h.laid.hC.1.kn hx|exact h.laid.hC.1.kb hx (by have:=h.laid.hG;omega)|exact h.laid.hC.1.gt hx (by have:=h.laid.hG;omega)|exact h.laid.hC.1.gto hx (by have:=h.laid.hG;omega) (by have:=h.laid.hG;simp;omega))) (Zt 6 J J ?_))));refine Zn (L':=[7,9,10,11,12]) [3,3,0,3,0,0,2,1,0,3,2,3,2] J J J ?_
  refine Y3 J Xj J J J (Qs (k:=5) (KE 0 O z0) (Vua F _) Od [b3,b4,b5] h he hc hkid hb O (E.ltm Ob) g.size) ((fun ch w' hz=>Bad.pass hz (by rw [ef];exact Er.refl _) (Aaa _) g)) ?_;rintro v201 w201 ⟨⟨p201,c201,rfl,q201,k201⟩,he201,eW,h,g201⟩;refine ⟨nw1,?_⟩;have g:=gtw g g201;replace E:=E.gtx g201;rw [eW] at he201 ef;refine Zy (GTO.of_gt g201) ?_;refine Zt 7 J J ?_;refine Zn (L':=[9,10,11,12]) [3,3,0,3,0,0,2,1,0,3,2,3,2] J J J ?_;refine CN fun _ _ N202 l202 g E=>?_;have hp202:=h;have nlt202:=N202.blk.lt;have k201:=k201.new N202;have h:=h.grow (N202.g);refine Zy (GTO.of_g (N202.g)) ?_;refine Zx 9 J J (fun _=>Zi Zh (Zd J)) (Zt 10 J J ?_);refine Zn (L':=[11,12]) [3,3,0,3,0,0,2,1,0,3,2,3,2] J J J ?_;refine AS fun _ hgS36 Ca g E=>?_;first|have h:=h.keep hgS36 Ca O (.inl rfl)|have h:=h.keep hgS36 Ca O (.inr ⟨by simp,fun hm=>by have:=htb2 _ hm;omega⟩)
  have k201:=k201.keep hgS36 Oi;refine Zy (GTO.of_row hgS36 Os) ?_;refine Zx 11 J J (fun _=>Zi Yk (Zd J)) (Zt 12 J J ?_);refine Zn (L':=[]) [3,3,0,3,0,0,2,1,0,3,2,3,2] J J J ?_;refine Xn J Xv (Zd J) (Zd J) J J E.g1 J J ?_;intro wS37 hgS37 _ BS;have C5:=E.g1;replace E:=E.s1 hgS37 BS;have g:=Yd g hgS37 O;first|have h:=h.keep hgS37 C5 O (.inl rfl)|have h:=h.keep hgS37 C5 O (.inr ⟨by simp,fun hm=>by have:=htb2 _ hm;omega⟩)
  have k201:=k201.keep hgS37 Oi;refine Zy (GTO.of_row hgS37 Os) ?_;refine TK [4,5] ?_;refine AS fun _ ga Ca g E=>?_;first|have h:=h.keep ga Ca O (.inl rfl)|have h:=h.keep ga Ca O (.inr ⟨by simp,fun hm=>by have:=htb2 _ hm;omega⟩)
  have k201:=k201.keep ga Oi;refine RTN ?_;rw [ef];exact ⟨he201,Xp (t:=annT t [_] tInt) rfl (Zga (ks:=[_]) ⟨l202,Jl E.g0⟩ E.g0.row (Vd (k201.kdN q201)) (Aaa _)),h,g⟩
 replace h12:t.kind≠37:=Wsg h12;refine IF (fun h13=>?_) fun h13=>?_
 ·replace h13:t.kind=35:=Wrg h13
  obtain ⟨hl,z0⟩:=sh35 h13 hx;have hc0:=hcS 0 O;have ef:=ex_35 (F:=F) (S:=S) h13 hl;refine Xh (gtoR X n0 [b5]) [3,3,0,3,0,0,1,1,0,3,1,3,1] [0,0,2,6,14,0,63,127,0,255,767,2047,4095] mix KR [0,1,2,3,4,5,6,7,8,9,10,11,12] J ?_;have g:=gtd g;replace E:=E.dr;have h:=h.grow (G.drew _);have hk0:=hk0.grow (G.drew _);refine Zx 0 J J (fun _=>Zw (Zd J)) (Zx 1 J J (fun _=>Zi Zh (Zd J)) (Yi 2 J J (fun w1 hx=>Zq Zg (Zd J) (fun _=>(E.g2.gto hx J (Uec (E.ne 2 0 J J J) Udc)).at_ J)) (?_)));obtain ⟨hpe,p_211,c_211,hcell,hkid⟩:=Yq hk0 (i:=0) O;refine Zx 3 J J (fun _=>Yv Zc (Zd J) Xa (fun _=>O) (fun _=>hpe)) (Yi 4 J J (fun w1 hx=>Zo Zf (Zd J) J (fun _=>by first|exact hcell.kn hx|exact hcell.gt hx (Vu hk0 (i:=0) O)|exact hcell.gto hx (Vu hk0 (i:=0) O) (by have:=Vu hk0 (i:=0) O;simp;omega))) (Yi 5 J J (fun w1 hx=>Zo Zm Jea J (fun _=>by first|exact h.laid.hC.1.kn hx|exact h.laid.hC.1.kb hx (by have:=h.laid.hG;omega)|exact h.laid.hC.1.gt hx (by have:=h.laid.hG;omega)|exact h.laid.hC.1.gto hx (by have:=h.laid.hG;omega) (by have:=h.laid.hG;simp;omega))) (Yi 8 J J (fun w1 hx=>Zo Zm Jea J (fun _=>by first|exact h.laid.hC.2.2.2.1.kn hx|exact h.laid.hC.2.2.2.1.kb hx (by have:=h.laid.hG;omega)|exact h.laid.hC.2.2.2.1.gt hx (by have:=h.laid.hG;omega)|exact h.laid.hC.2.2.2.1.gto hx (by have:=h.laid.hG;omega) (by have:=h.laid.hG;simp;omega))) (Zt 6 J J ?_))));refine Zn (L':=[7,9,10,11,12]) [3,3,0,3,0,0,2,1,0,3,2,3,2] J J J ?_
  refine Y3 J Xj J J J (Qs (k:=1) (KE 0 O z0) (Vua F _) Od [b3,b4,b5] h he hc hkid hb O (E.ltm Ob) g.size) ((fun ch w' hz=>Bad.pass hz (by rw [ef];exact Er.refl _) (Aaa _) g)) ?_;rintro v214 w214 ⟨⟨p214,c214,rfl,q214,k214⟩,he214,eW,h,g214⟩;refine ⟨nw1,?_⟩;have g:=gtw g g214;replace E:=E.gtx g214;rw [eW] at he214 ef;refine Zy (GTO.of_gt g214) ?_;refine Zt 7 J J ?_;refine Zn (L':=[9,10,11,12]) [3,3,0,3,0,0,2,1,0,3,2,3,2] J J J ?_;refine CN fun _ _ N215 l215 g E=>?_;have hp215:=h;have nlt215:=N215.blk.lt;have k214:=k214.new N215;have h:=h.grow (N215.g);refine Zy (GTO.of_g (N215.g)) ?_;refine Zx 9 J J (fun _=>Zi Zh (Zd J)) (Zt 10 J J ?_);refine Zn (L':=[11,12]) [3,3,0,3,0,0,2,1,0,3,2,3,2] J J J ?_;refine AS fun _ hgS39 Ca g E=>?_;first|have h:=h.keep hgS39 Ca O (.inl rfl)|have h:=h.keep hgS39 Ca O (.inr ⟨by simp,fun hm=>by have:=htb2 _ hm;omega⟩)
  have k214:=k214.keep hgS39 Oi;refine Zy (GTO.of_row hgS39 Os) ?_;refine Zx 11 J J (fun _=>Zi Yk (Zd J)) (Zt 12 J J ?_);refine Zn (L':=[]) [3,3,0,3,0,0,2,1,0,3,2,3,2] J J J ?_;refine Xn J Xv (Zd J) (Zd J) J J E.g1 J J ?_;intro wS40 hgS40 _ BS;have C5:=E.g1;replace E:=E.s1 hgS40 BS;have g:=Yd g hgS40 O;first|have h:=h.keep hgS40 C5 O (.inl rfl)|have h:=h.keep hgS40 C5 O (.inr ⟨by simp,fun hm=>by have:=htb2 _ hm;omega⟩)
  have k214:=k214.keep hgS40 Oi;refine Zy (GTO.of_row hgS40 Os) ?_;refine TK [4,5] ?_;refine AS fun _ ga Ca g E=>?_;first|have h:=h.keep ga Ca O (.inl rfl)|have h:=h.keep ga Ca O (.inr ⟨by simp,fun hm=>by have:=htb2 _ hm;omega⟩)
  have k214:=k214.keep ga Oi;refine RTN ?_;rw [ef];exact ⟨he214,Xp (t:=annT t [_] ⟨5,[]⟩) rfl (Zga (ks:=[_]) ⟨l215,Jl E.g0⟩ E.g0.row (Vd (k214.kdN q214)) (Aaa _)),h,g⟩
 replace h13:t.kind≠35:=Wsg h13;refine IF (fun h14=>?_) fun h14=>?_
 ·replace h14:t.kind=36:=Wrg h14
  obtain ⟨hl,z0⟩:=sh36 h14 hx;have hc0:=hcS 0 O;have ef:=ex_36 (F:=F) (S:=S) h14 hl;refine Xh (gtoR X n0 [b5]) [3,3,0,3,0,0,1,1,0,3,1,3,1] [0,0,2,6,14,0,63,127,0,255,767,2047,4095] mix KR [0,1,2,3,4,5,6,7,8,9,10,11,12] J ?_;have g:=gtd g;replace E:=E.dr;have h:=h.grow (G.drew _);have hk0:=hk0.grow (G.drew _);refine Zx 0 J J (fun _=>Zw (Zd J)) (Zx 1 J J (fun _=>Zi Zh (Zd J)) (Yi 2 J J (fun w1 hx=>Zq Zg (Zd J) (fun _=>(E.g2.gto hx J (Uec (E.ne 2 0 J J J) Udc)).at_ J)) (?_)));obtain ⟨hpe,p_224,c_224,hcell,hkid⟩:=Yq hk0 (i:=0) O;refine Zx 3 J J (fun _=>Yv Zc (Zd J) Xa (fun _=>O) (fun _=>hpe)) (Yi 4 J J (fun w1 hx=>Zo Zf (Zd J) J (fun _=>by first|exact hcell.kn hx|exact hcell.gt hx (Vu hk0 (i:=0) O)|exact hcell.gto hx (Vu hk0 (i:=0) O) (by have:=Vu hk0 (i:=0) O;simp;omega))) (Yi 5 J J (fun w1 hx=>Zo Zm Jea J (fun _=>by first|exact h.laid.hC.1.kn hx|exact h.laid.hC.1.kb hx (by have:=h.laid.hG;omega)|exact h.laid.hC.1.gt hx (by have:=h.laid.hG;omega)|exact h.laid.hC.1.gto hx (by have:=h.laid.hG;omega) (by have:=h.laid.hG;simp;omega))) (Yi 8 J J (fun w1 hx=>Zo Zm Jea J (fun _=>by first|exact h.laid.hC.2.2.2.2.1.kn hx|exact h.laid.hC.2.2.2.2.1.kb hx (by have:=h.laid.hG;omega)|exact h.laid.hC.2.2.2.2.1.gt hx (by have:=h.laid.hG;omega)|exact h.laid.hC.2.2.2.2.1.gto hx (by have:=h.laid.hG;omega) (by have:=h.laid.hG;simp;omega))) (Zt 6 J J ?_))));refine Zn (L':=[7,9,10,11,12]) [3,3,0,3,0,0,2,1,0,3,2,3,2] J J J ?_
  refine Y3 J Xj J J J (Qs (k:=1) (KE 0 O z0) (Vua F _) Od [b3,b4,b5] h he hc hkid hb O (E.ltm Ob) g.size) ((fun ch w' hz=>Bad.pass hz (by rw [ef];exact Er.refl _) (Aaa _) g)) ?_;rintro v227 w227 ⟨⟨p227,c227,rfl,q227,k227⟩,he227,eW,h,g227⟩;refine ⟨nw1,?_⟩;have g:=gtw g g227;replace E:=E.gtx g227;rw [eW] at he227 ef;refine Zy (GTO.of_gt g227) ?_;refine Zt 7 J J ?_;refine Zn (L':=[9,10,11,12]) [3,3,0,3,0,0,2,1,0,3,2,3,2] J J J ?_;refine CN fun _ _ N228 l228 g E=>?_;have hp228:=h;have nlt228:=N228.blk.lt;have k227:=k227.new N228;have h:=h.grow (N228.g);refine Zy (GTO.of_g (N228.g)) ?_;refine Zx 9 J J (fun _=>Zi Zh (Zd J)) (Zt 10 J J ?_);refine Zn (L':=[11,12]) [3,3,0,3,0,0,2,1,0,3,2,3,2] J J J ?_;refine AS fun _ hgS42 Ca g E=>?_;first|have h:=h.keep hgS42 Ca O (.inl rfl)|have h:=h.keep hgS42 Ca O (.inr ⟨by simp,fun hm=>by have:=htb2 _ hm;omega⟩)
  have k227:=k227.keep hgS42 Oi;refine Zy (GTO.of_row hgS42 Os) ?_;refine Zx 11 J J (fun _=>Zi Yk (Zd J)) (Zt 12 J J ?_);refine Zn (L':=[]) [3,3,0,3,0,0,2,1,0,3,2,3,2] J J J ?_;refine Xn J Xv (Zd J) (Zd J) J J E.g1 J J ?_;intro wS43 hgS43 _ BS;have C5:=E.g1;replace E:=E.s1 hgS43 BS;have g:=Yd g hgS43 O;first|have h:=h.keep hgS43 C5 O (.inl rfl)|have h:=h.keep hgS43 C5 O (.inr ⟨by simp,fun hm=>by have:=htb2 _ hm;omega⟩)
  have k227:=k227.keep hgS43 Oi;refine Zy (GTO.of_row hgS43 Os) ?_;refine TK [4,5] ?_;refine AS fun _ ga Ca g E=>?_;first|have h:=h.keep ga Ca O (.inl rfl)|have h:=h.keep ga Ca O (.inr ⟨by simp,fun hm=>by have:=htb2 _ hm;omega⟩)
  have k227:=k227.keep ga Oi;refine RTN ?_;rw [ef];exact ⟨he227,Xp (t:=annT t [_] ⟨6,[]⟩) rfl (Zga (ks:=[_]) ⟨l228,Jl E.g0⟩ E.g0.row (Vd (k227.kdN q227)) (Aaa _)),h,g⟩
 replace h14:t.kind≠36:=Wsg h14;refine IF (fun h15=>?_) fun h15=>?_
 ·replace h15:t.kind=34:=Wrg h15
  have ef:=ex_34 (F:=F) (S:=S) h15;refine AU ?_;refine Xh (rowR none) [3,3,3,0,3,0,0,3,0,1] [0,1,3,7,0,16,63,0,128,511] mix KR [0,1,2,3,4,5,6,7,8,9] J ?_;have g:=gtd g;replace E:=E.dr;have h:=h.grow (G.drew _);obtain ⟨fv,ms,mg,mn,mf,pv,sv,cv,rv,vs,sc,hK⟩:=id h;refine Zx 0 J J (fun _=>Zw (Zd J)) (Zx 1 J J (fun _=>Zna (Zd J)) (Zx 2 J J (fun _=>Zi Js (Zd J)) (Yi 3 J J (fun w1 hx=>Zq Qy (Zd J) (fun _=>(hK.B.keep hx (fun h=>nomatch h)).at_ J)) (Zx 4 J J (fun _=>Zi Xe (Zd J)) (Yi 5 J J (fun w1 hx=>Zq Yy (Zd J) (fun _=>(E.g2.keep hx (fun h=>nomatch h)).at_ J)) (Yi 6 J J (fun w1 hx=>Yjc (hK.T.hs.keep hx (fun h=>nomatch h)) (Zd J) (Zd J)) (Zx 7 J J (fun _=>Zi Xz (Zd J)) (Yi 8 J J (fun w1 hx=>Zq Yf (Zd J) (fun _=>(E.g2.keep hx (fun h=>nomatch h)).at_ J)) (Zt 9 J J ?_)))))))));refine Zn (L':=[]) [3,3,3,0,3,0,0,3,0,1] J J J ?_;refine Y3 J Ye J J J (Vf _ _ _ _) ((fun ch w' hz=>Ul h he Od (by rw [ef];exact Er.refl _) hz g (Aaa _))) ?_;rintro v243 w243 ⟨rfl,hq243,g243⟩;refine ⟨fun _=>g243,?_⟩;have g:=gtg g g243;replace E:=E.grow g243;have h:=h.grow (g243);rw [hq243] at ef;refine Zy ((g243).only _) ?_;refine Wra [(3,_,_),(4,_,_),(5,_,_)] (Za J (Za J (Za J (Zr _)))) (Jg (kq (Zl (Xg Xe J (Xl Yy J (E.g2.at_ J) (Vfb Xk Vm (pqc J (pqc J pq0)) J J (Xg Yk J (Xn J Xv (Zd J) (Zd J) J J E.g0 J J ?_))))))));intro wS45 hgS45 _ BS;have C5:=E.g0;replace E:=E.s0 hgS45 BS;have g:=Yd g hgS45 O;first|have h:=h.keep hgS45 C5 O (.inl rfl)|have h:=h.keep hgS45 C5 O (.inr ⟨by simp,fun hm=>by have:=htb2 _ hm;omega⟩)
  refine AS fun _ ga Ca g E=>?_;first|have h:=h.keep ga Ca O (.inl rfl)|have h:=h.keep ga Ca O (.inr ⟨by simp,fun hm=>by have:=htb2 _ hm;omega⟩)
  refine RTN ?_;rw [ef];exact ⟨he,Xp (t:=annT t [] ⟨4,t.text⟩) rfl (Yfb _ _),h,g⟩
 replace h15:t.kind≠34:=Wsg h15;refine IF (fun h16=>?_) fun h16=>?_
 ·replace h16:t.kind=30:=Wrg h16
  have ef:=ex_30 (F:=F) (S:=S) h16;refine AU ?_;refine Y2 J Ymb J J (CxM.to (KK h16) [b3,b4,b5] h he hc hk0 hb hn (E.ltm Ob) g.size) ((fun ch w' hz=>Bad.pass hz (by rw [ef];exact Er.refl _) (Aaa _) g)) ?_;rintro v252 w252 ⟨⟨p252,c252,rfl,q252,k252⟩,he252,h,g252⟩;refine ⟨nw1,?_⟩;have g:=gtw g g252;replace E:=E.gtx g252;refine AS fun _ ga Ca g E=>?_;first|have h:=h.keep ga Ca O (.inl rfl)|have h:=h.keep ga Ca O (.inr ⟨by simp,fun hm=>by have:=htb2 _ hm;omega⟩)
  have k252:=k252.keep ga Oi;refine RTN ?_;rw [ef];exact ⟨he252,Xp rfl (k252.kdN q252),h,g⟩
 exfalso;replace h16:t.kind≠30:=Wsg h16;have:=op_k hx h1 h2 h3 h4 h16 h5 h6 h15;simp only [Ada,Ala,or_false] at this;omega;done
theorem Uoe{t:Nd}(h:commF t=true)(h9:t.kind=9):t.kids=[]:=by
 rw [← Qbb,Uja,h9] at h;have h:(stmtB t || noneB t)=true:=h;rw [Bool.or_eq_true] at h;exact List.length_eq_zero_iff.1 (Jw (h.resolve_left fun q=>Qic q h9)).2.2
structure CcOk (F t:Nd):Prop where
  ex:exprB t=true→CxM 1000000 F 113 t (ckT F t).ex
  st:stmtB t=true→CxM 1000000 F 87 t (ckT F t).st
  cs:Zya t=true→ChM F t
  sts:blockB t=true→CxM 1000001 F 57 t (ckT F t).sts
theorem Xcf{F:Nd}(HF:FW F):∀ (n:Nat) (t:Nd),count t≤n→CcOk F t:=by
 intro n
 induction n with
 | zero=>intro t h;exact absurd h (by have:=Yza t;omega)
 | succ n ihn =>
  intro t hc;have K:∀ i,i<t.kids.length→CcOk F (Zb t i):=fun i h=>ihn _ (by have:=Wk h;omega);have K2:∀ i,i<t.kids.length→∀ j,j<(Zb t i).kids.length→CcOk F (Zb (Zb t i) j):=fun i h j hj=>ihn _ (by have:=Wk h;have:=Wk hj;omega);have HS:blockB t=true→CxM 1000001 F 57 t (ckT F t).sts:=fun hb=>@Ume F t fun i hi=>(K i hi).st (Vg (sh10 hb) hi);have HB:blockB t=true→CxM 1000000 F 116 t (ckT F t).blk:=fun hb=>@Une F t (HS hb)
  have HK:exprB t=true→t.kind=30→CxM 1000000 F 141 t (callR t (ckX F t)):=fun hx h=>by
   obtain ⟨hl,ha⟩:=sh30 h hx;have HE:∀ i,i<t.kids.length→CxM 1000000 F 113 (Zb t i) (ckT F (Zb t i)).ex:=fun i hi=>(K i hi).ex (Vg ha hi);have hx0:exprB (Zb t 0)=true:=Vg ha O;refine @Ypf F t hl (@Zfe F _ HF (Vua F _) (HE 0 O) (fun h28=>by have:=(sh28 h28 hx0).2.1;omega) fun h28 q28=>?_) HE (fun i=>Vua F _);obtain ⟨_,l0,y0⟩:=sh28 h28 hx0;obtain ⟨_,l1,y1⟩:=sh28 q28 y0;refine ⟨O,?_⟩;have c1:=Wk (t:=t) (i:=0) O;have c2:=Wk (t:=Zb t 0) (i:=0) O;have c3:=Wk (t:=Zb (Zb t 0) 0) (i:=0) O;exact @CcOk.ex F _ (ihn _ O) y1
  have HX:exprB t=true→CxM 1000000 F 113 t (ckT F t).ex:=fun hx=>@Xbf F t HF hx (fun i hi q=>(K i hi).ex q) (fun h=>by
   obtain ⟨hl,hb⟩:=sh38 h hx;exact (K 0 O).sts hb) (HK hx)
  have HT:stmtB t=true→CxM 1000000 F 87 t (ckT F t).st:=fun hx=>@Xaf F t hx (fun i hi q=>(K i hi).ex q) (fun i hi q=>(K i hi).st q) (fun i hi q=>(K i hi).cs q) HB
  have HC:Zya t=true→ChM F t:=fun hx=>by
   obtain ⟨_,hl,hcm,hb⟩:=sh23 hx;exact @Zge F t hl (Uoe hcm) (fun h9=>(K 0 O).st ((Jic hcm).resolve_left h9)) ((K 1 O).sts hb)
  exact ⟨HX,HT,HC,HS⟩
theorem Xdf{t:Nd}(h:t.kind=10):(endT t).1=(endT t).2:=by rw [Yca];unfold endP;rw [h];rfl
theorem Xef(t:Nd)(i:Nat)(h:i<t.kids.length):(t.kids.map endT).getD i (false,false)=endT (Zb t i):=by
 rw [Yz h];simp [Apa,Ana h]
theorem Xff{l:List Nd}(hl:l≠[]):((l.map endT).getLast?.getD (false,false))=endT (l.getLast hl):=by
 rw [List.getLast?_map,List.getLast?_eq_some_getLast hl];rfl
theorem Yvg{t:Nd}(h:t.kind=18)(hl:t.kids.length=3):(endT t).1=((endT (Zb t 1)).2&&((decide ((Zb t 2).kind=10)&&(endT (Zb t 2)).2) || (decide ((Zb t 2).kind=18)&&(endT (Zb t 2)).1))):=by
 rw [Yca];unfold endP;rw [h];show (((t.kids.map endT).getD 1 (false,false)).2&&((decide ((Zb t 2).kind=10)&&((t.kids.map endT).getD 2 (false,false)).2) || (decide ((Zb t 2).kind=18)&&((t.kids.map endT).getD 2 (false,false)).1)))=_;rw [Xef t 1 O,Xef t 2 O]
def lT(l:List Nd):Nd:=.mk 0 [] 0 0 l ty0 0 0
theorem Upe{l:List Nd}(h:0<l.length):endsL l=(endT (Zb (lT l) (l.length-1))).1∧Zb (lT l) (l.length-1)∈l:=by
 have hl:l≠[]:=by intro e;subst e;simp at h
 have e:Zb (lT l) (l.length-1)=l.getLast hl:=by
  rw [Yz (show l.length-1<(lT l).kids.length from (by show _<l.length;omega)),List.getLast_eq_getElem];rfl
 rw [e];exact ⟨by unfold endsL;rw [Xff hl],List.getLast_mem hl⟩
theorem Qjc{l:List Nd}{t:Nd}(h:t∈l):count t≤(l.map count).sum:=by
 have h1:=Xaa (t:=lT l) (k:=t) h;rw [Qi (lT l)] at h1;have:(lT l).kids=l:=rfl;rw [this] at h1;omega
theorem Jrb(t:Nd):(t.kids.map count).sum<count t:=by rw [Qi t];omega
theorem Xgf(t:Nd):endsL [t]=(endT t).1:=rfl
theorem Qif{k:Nd}(h:blockB k=true∨ifB k=true∨noneB k=true)(e:k.kind≠9):stmtB k=true :=
 h.elim Xhd fun h=>h.elim Jxf fun h=>absurd (Jw h).1 e
theorem Qjf{t:Nd}(h5:t.kind=18)(hl:t.kids.length=3)(h:blockB (Zb t 2)=true∨ifB (Zb t 2)=true∨noneB (Zb t 2)=true):(endT t).1=((endT (Zb t 1)).2&&(!decide ((Zb t 2).kind=9)&&(endT (Zb t 2)).1)):=by
 rw [Yvg h5 hl];refine congrArg _ ?_;rcases h with h|h|h;have e:=Qv h;rw [e,Xdf e];show ((true&&_) || (false&&_))=(!false&&_);simp;have e:(Zb t 2).kind=18:=Wrg (Aja.1 h).1;rw [e];rfl;have e:=(Jw h).1;rw [e];rfl
theorem Uad(F p:Nd)(S:CSt):∀ i,(parA F p S i).1.length=i
 | 0=>rfl
 | i+1=>by
  show ((parA F p S i).1++[_]).length=_;rw [Aea,Uad F p S i];rfl
theorem Jsb(F p:Nd)(S:CSt):∀ i,Stp i S (parA F p S i).2
 | 0=>Stp.refl S
 | i+1=>((Jsb F p S i).trans (Xyb _ _ _ _)).trans (Wwb _ _ _)
theorem Qkf(S:CSt):Bd (funS0 S) 0:=⟨Aaa _,Aaa _,fun k hk=>by
 have:k∈[0]:=hk;simp at this;omega,by show (0:Nat)<1;decide,Aaa _,fun v hv=>by cases hv⟩
theorem Xhf{S:CSt}{N:Nat}(h:Bd S N)(y:Ty):Bd { S with result:=y } N:=⟨h.vl,h.nl,h.nx,h.lv,h.sc,h.vs⟩
theorem Xif(F p:Nd)(S:CSt)(i:Nat):Bd (parA F p (funS0 S) i).2 i:=by
 have:=(Jsb F p (funS0 S) i).bd _ (Qkf S);rwa [Afa] at this
theorem Xke(F n:Nd)(S:CSt):Bd (funS2 F n S) (Zb n 0).kids.length:=by
 have h1:Bd (funS1 F n S) (Zb n 0).kids.length:=Xhf (Xif F _ S _) _;unfold funS2;cases decide ((Zb n 1).kind=9);exact Xhf ((Wwb F (Zb n 1) (funS1 F n S)).bd _ h1) _;exact h1
set_option maxHeartbeats 2000000
theorem Xjf{w:Aa}{D:Nat→Prop}{t:Nd}{p:Option Addr}{c:Nat}(hk:Kd w D t.kids (.slice p t.kids.length c))(hl:t.kids.length=3):p=some ⟨pb p,po p,none⟩∧Kd w D [Zb t 2] (.slice (some ⟨pb p,if c=(2:Int).toNat then po p else po p+(2:Int).toNat*9,none⟩) (t.kids.length-(2:Int).toNat) (c-(2:Int).toNat)):=by
 obtain ⟨e0,p2,c2,hc2,hk2⟩:=Yq hk (i:=2) O;have hD:=Vu hk (show 0<t.kids.length by omega);obtain ⟨p',c',hpe,hc,_⟩:=hk;injection hpe with hpe _ hce;subst hpe hce;have h2:(2:Int).toNat=2:=rfl;refine ⟨e0,_,c-(2:Int).toNat,by rw [hl];rfl,by show 1≤_;omega,fun h0=>⟨_,_,rfl,hD,?_⟩⟩;rw [if_neg O];exact ⟨_,hc2,Vd hk2⟩
theorem Ubd(n:Nat):∀ (l:List Nd) (v:Ga) (D:Nat→Prop) (w:Aa),Kd w D l v→l.all stmtB=true→(l.map count).sum<n→n≤1000001→Ret PP 58 #[v] w fun r w'=>r = .bool (endsL l)∧G w w':=by
 induction n with
 | zero=>intro l v D w _ _ h _;omega
 | succ n ih =>
 intro l v D w hk0 hl hc hn;obtain ⟨p,c,rfl,_⟩:=id hk0
 have hln:l.length≤1000000:=by
  have:=Wn (lT l);rw [Qi (lT l)] at this;have h2:(lT l).kids=l:=rfl;rw [h2] at this;omega
 have g:=G.refl w;refine WK 52 [0] Tryz.func58 ?_;refine IF (fun h1=>?_) fun h1=>?_;replace h1:l=[]:=List.eq_nil_of_length_eq_zero (by have:=Wrg h1;omega);subst h1;refine Zj (Zl (Yr J (Ze (kq (Xo (Wj J J ?_))))));exact ⟨rfl,g⟩;replace h1:0<l.length:=by have:=Wsg h1;omega
 obtain ⟨t,et⟩:∃ t,t=Zb (lT l) (l.length-1):=⟨_,rfl⟩;obtain ⟨e0,pt,ct,hcell,hkid⟩:=Yq (t:=lT l) hk0 (i:=l.length-1) (by show _<l.length;omega);rw [← et] at hcell hkid;obtain ⟨eE,hm⟩:=Upe h1;rw [← et] at eE hm;have ht:=Aga.1 hl _ hm;have hct:=Qjc hm;have eN:((l.length:Int)-1).toNat=l.length-1:=by omega
 refine Yw (kq (Zj (Zl (Zv J (Zv J (Yha Zc J (Zz J (fun _=>Xca (Zd J) Xa (fun _=>O)) (Zma Zc J J O e0 (Wm Zf J J (by rw [eN];exact hcell.grow g) (AM fun _ _ _ _ g E=>?_))))))))));refine AS fun _ _ _ g E=>?_;refine IF (fun h2=>?_) fun h2=>?_;replace h2:t.kind=20:=Wrg h2;refine RTN ?_;exact ⟨by rw [eE,Yca];unfold endP;rw [h2];rfl,g⟩;replace h2:t.kind≠20:=Wsg h2;refine Zj (Zl (Zea J J (Yr J (Ze (kq (Wz J (fun h3=>?_) (fun h3=>?_)))))));replace h3:t.kind=19:=Wrg h3;have hl2:=(sh19 h3 ht).1;obtain ⟨e1,p1,c1,hc1,hk1⟩:=Yq hkid (i:=0) O;refine Zj (Zl (Xg Zh J (Xl Zg J (E.g0.at_ J) (Zma Zc J J O e1 (Xg Xi J (Xl Yf J ((hc1.grow g).one (i:=0) J) (Zea J J (Yr J (Ze (kq (Xo (Wj J J ?_))))))))))));exact ⟨by rw [eE,Yca];unfold endP;rw [h3];rfl,g⟩;replace h3:t.kind≠19:=Wsg h3;refine IF (fun h4=>?_) fun h4=>?_;replace h4:t.kind=10:=Wrg h4;refine AU ?_;refine CP (ih _ _ D _ (hkid.grow g) (sh10 (sh10s h4 ht)) (by have:=Jrb t;omega) O) (fun w29 g29=>?_);have g:=g.trans g29;replace E:=E.grow g29;refine Yr J (Ze (kq (Xo (Wj J J ?_))));exact ⟨by rw [eE,Xdf h4,Yqd],g⟩;replace h4:t.kind≠10:=Wsg h4;refine Zj (Zl (Zea J J (Yr J (Ze (kq (Wz J (fun h5=>?_) (fun h5=>?_)))))));replace h5:t.kind=18:=Wrg h5;obtain ⟨hl3,_,hb1,hb2⟩:=sh18 (sh18s h5 ht);have hc3:=cn3 hl3;obtain ⟨e1,p1,c1,hc1,hk1⟩:=Yq hkid (i:=1) O;obtain ⟨e2,p2,c2,hc2,hk2⟩:=Yq hkid (i:=2) O;obtain ⟨e3,hk3⟩:=Xjf hkid hl3
 refine Zj (Zl (Xg Zh J (Xl Zg J (E.g0.at_ J) (Zma Zc J J O e1 (Xg Zh J (Xl Zg J ((hc1.grow g).one (i:=4) J) (Wy J (Zu Vub Xy (aqc J aq0) J) (ih _ _ D _ (hk1.grow g) (sh10 hb1) (by have:=Jrb (Zb t 1);omega) O) (fun w37 g37=>?_))))))));have g:=g.trans g37;replace E:=E.grow g37;refine Zv J (Zk J J J (fun _=>Zi Zh (Zd J)) (Yg J J J (Zq Zg (Zp J id) (fun _=>E.g0.at_ J)) (Zk J J J (fun _=>Yv Zc (Zp J id) Xa (fun _=>O) (fun _=>e2)) (Zk J J J (fun _=>Zi Xi (Zp J id)) (Yg J J J (Zq Yf (Zp J id) (fun _=>(hc2.grow g).one (i:=0) J)) (Zk J J J (fun _=>Yka (Zp J id) Xa) (Zz J (fun _=>Yn (Zd J) (Zp J id)) (Zv J (Zk J J J (fun _=>Zi Zh (Zd J)) (Yg J J J (Zq Zg (Zp J id) (fun _=>E.g0.at_ J)) (Zk J J J (fun _=>Zob Zc (e3▸(Zp J id)) Xa (fun _=>O)) (Xu J J J (fun _=>(Zu Vub Xy (Ya (Zp J id) (Yl)) J)) (fun hc=>ih [Zb t 2] _ D _ (hk3.grow g) (by simp [Qif hb2 (by have q:=hc.2;simp at q;exact q.2)]) (by show count (Zb t 2)+0<n;have:=Yza (Zb t 1);omega) O) (fun w50 g50=>?_)))))))))))));have g:=g.trans g50;replace E:=E.grow g50;refine RTN ?_;exact ⟨by rw [eE,Qjf h5 hl3 hb2,Yqd,Xgf,Bool.and_assoc],g⟩;replace h5:t.kind≠18:=Wsg h5;refine RTN ?_;exact ⟨by rw [eE,Yca];unfold endP;rw [Wmg h2,Wmg h3,Wmg h4,Wmg h5];rfl,g⟩
abbrev Cst:=Bool×Int
@[reducible] def conV(c:Cst):Ga:=.agg #[.bool c.1,.int .i64 c.2]
def zc:Cst×Bool:=((false,0),false)
def trC(b:Bool):Cst×Bool:=((true,bif b then 1 else 0),true)
def nmC(n:Int):Cst×Bool:=((false,n),true)
def binF(op:List UInt8)(x y:Cst):Cst×Bool :=
 bif decide (op=[61,61]) then trC (decide (x.2=y.2))
 else bif decide (op=[33,61]) then trC (!decide (x.2=y.2))
 else bif x.1 then
  bif decide (op=[38,38]) then trC (decide (x.2=1)&&decide (y.2=1))
  else bif decide (op=[124,124]) then trC (decide (x.2=1) || decide (y.2=1))
  else zc
 else bif decide (op=[43]) then nmC (IntKind.i64.wrap (x.2+y.2))
 else bif decide (op=[45]) then nmC (IntKind.i64.wrap (x.2-y.2))
 else bif decide (op=[42]) then nmC (IntKind.i64.wrap (x.2*y.2))
 else bif decide (op=[47]) then (bif !decide (y.2=0) then nmC (IntKind.i64.wrap (x.2.tdiv y.2)) else zc)
 else bif decide (op=[37]) then (bif !decide (y.2=0) then nmC (x.2.tmod y.2) else zc)
 else bif decide (op=[60]) then trC (decide (x.2<y.2))
 else bif decide (op=[60,61]) then trC (decide (x.2≤y.2))
 else bif decide (op=[62]) then trC (decide (y.2<x.2))
 else bif decide (op=[62,61]) then trC (decide (y.2≤x.2))
 else zc
def valF(t:Nd)(r:Nat→Cst×Bool):Cst×Bool :=
 bif decide (t.kind=24) then ((false,t.num),(decide (0≤t.num)&&plainB t)&&lenK t 0)
 else bif decide (t.kind=25) then ((true,t.num),((decide (t.num=0) || decide (t.num=1))&&plainB t)&&lenK t 0)
 else bif decide (t.kind=31)&&lenK t 1 then
  bif ((r 0).2&&decide (t.text=[45])) && !(r 0).1.1 then nmC (IntKind.i64.wrap (0-(r 0).1.2))
  else bif ((r 0).2&&decide (t.text=[33]))&&(r 0).1.1 then ((true,IntKind.i64.wrap (1-(r 0).1.2)),true)
  else zc
 else bif decide (t.kind=32)&&lenK t 2 then
  bif ((r 0).2&&(r 1).2)&&((r 0).1.1 == (r 1).1.1) then binF t.text (r 0).1 (r 1).1
  else zc
 else zc
def valC(t:Nd):Cst×Bool:=para (fun t l=>valF t fun i=>l.getD i zc) t
theorem getD_map'{α β:Type}(f:α→β)(l:List α)(i:Nat)(d:α):(l.map f).getD i (f d)=f (l.getD i d):=by
 simp only [Apa,List.getElem?_map];cases l[i]? <;> rfl
theorem Xkf:valC nd0=zc:=by rw [valC,Zla];rfl
theorem Qlf(t:Nd):valC t=valF t fun i=>valC (Zb t i):=by
 have h:∀ i,(t.kids.map (para (fun t l=>valF t fun i=>l.getD i zc))).getD i zc=valC (Zb t i):=fun i=>by
  have:=getD_map' valC t.kids i nd0;rw [Xkf] at this;exact this
 rw [valC,Zla];exact congrArg (valF t) (funext h)
@[reducible] def retC(x:Cst×Bool):Ga:=.tuple #[.int .i64 x.1.2,.bool x.1.1,.bool x.2]
def RetD(D:Nat→Prop)(t:Nd)(r:Ga)(w:Aa):Prop:=∃ p c,r=ndV t (.slice p t.kids.length c)∧Kd w D t.kids (.slice p t.kids.length c)
theorem RetD.grow{D:Nat→Prop}{t:Nd}{r:Ga}{w w':Aa}(h:RetD D t r w)(g:G w w'):RetD D t r w':=by
 obtain ⟨p,c,e,k⟩:=h;exact ⟨p,c,e,k.grow g⟩
theorem RetD.mono{D D':Nat→Prop}{t:Nd}{r:Ga}{w:Aa}(h:RetD D t r w)(hD:∀ b,D b→D' b):RetD D' t r w:=by
 obtain ⟨p,c,e,k⟩:=h;exact ⟨p,c,e,k.mono fun b hb _=>hD b hb⟩
@[reducible] def GE(n:Nat):Nat→Prop:=fun b=>n≤b
theorem OwnK.low{e:Ba}{D:Nat→Prop}{base:Nat}{w:Aa}{ks:List Nd}{s:Ga}(h:OwnK e D base w ks s):OwnK e (fun b=>D b∧b<w.heap.size) base w ks s:=by
 have hlt:=h.lt;obtain ⟨xs,h1,h2,h3⟩:=h;exact ⟨xs,h1,h2.lt.mono fun b hb _=>⟨⟨hb.1.1,hb.2⟩,hb.1.2⟩,fun b hb=>⟨h3 b hb,hlt b hb⟩⟩
theorem OwnK.mono{e:Ba}{D D':Nat→Prop}{base:Nat}{w:Aa}{ks:List Nd}{s:Ga}(h:OwnK e D base w ks s)(hD:∀ b,D b→D' b):OwnK e D' base w ks s:=by
 obtain ⟨xs,h1,h2,h3⟩:=h;exact ⟨xs,h1,h2.mono fun b hb _=>⟨hD b hb.1,hb.2⟩,fun b hb=>hD b (h3 b hb)⟩
def unN(n pos:Int):Nd:=.mk 31 [45] 0 pos [.mk 24 [] n pos [] ty0 0 0] ty0 0 0
def replT(c:Cst)(pos:Int):Nd×Bool :=
 bif c.1 then (.mk 25 [] c.2 pos [] ty0 0 0,true)
 else bif decide (0≤c.2) then (.mk 24 [] c.2 pos [] ty0 0 0,true)
 else bif !decide (c.2 = -9223372036854775808) then (unN (IntKind.i64.wrap (0-c.2)) pos,true)
 else (nd0,false)
def foldF(t:Nd)(l:List Nd):Nd :=
 bif (valC t).2&&(replT (valC t).1 t.pos).2 then (replT (valC t).1 t.pos).1
 else bif decide (t.kind=18)&&(valC (Zb t 0)).2 then
  bif decide ((valC (Zb t 0)).1.2=1) then l.getD 1 nd0
  else bif decide ((Zb t 2).kind=9) then .mk 10 [] 0 t.pos [] ty0 0 0
  else l.getD 2 nd0
 else .mk t.kind t.text (bif decide (t.kind=24) || decide (t.kind=25) then t.num else 0) t.pos l ty0 0 0
def foldT(t:Nd):Nd:=para foldF t
theorem Uhc(t:Nd):foldT t=foldF t (t.kids.map foldT):=Zla foldF t
theorem RetNd.mono{t:Nd}{b b':Nat}{v:Ga}{w w':Aa}(h:RetNd t b v w)(hb:b'≤b)(g:G w w'):RetNd t b' v w':=by
 obtain ⟨p,c,rfl,hk⟩:=h;exact ⟨p,c,rfl,(hk.mono fun k hk _=>Nat.le_trans hb hk).grow g⟩
theorem Qmf{t:Nd}(h:t.kind=18)(hp:permF t=true):t.kids.length=3:=by
 rw [Vz,locB,Aba,Aba,formB,h] at hp;have hf:kidsB t [expK,memK [10],memK [10,18,9]]=true:=hp.1.2;rw [kidsB,Aba,Wpg] at hf;exact hf.1
theorem Jpc{t:Nd}{i:Nat}(h:i<t.kids.length):(t.kids.map foldT).getD i nd0=foldT (Zb t i):=by
 rw [Yz h];simp [Apa,Ana h]
def valO(t:Nd):Option Cst:=bif (valC t).2 then some (valC t).1 else none
def oneO(t:Nd)(x:Option Cst):Option Cst:=match x with
 | some c=>bif decide (t.text=[45]) && !c.1 then some (false,IntKind.i64.wrap (0-c.2)) else bif decide (t.text=[33])&&c.1 then some (true,IntKind.i64.wrap (1-c.2)) else none
 | none=>none
def twoO(op:List UInt8)(x y:Option Cst):Option Cst:=match x,y with
 | some a,some b=>bif a.1 == b.1 then (bif (binF op a b).2 then some (binF op a b).1 else none) else none
 | _,_=>none
def oF(t:Nd)(r:Nat→Option Cst):Option Cst :=
 bif decide (t.kind=24) then (bif (decide (0≤t.num)&&plainB t)&&lenK t 0 then some (false,t.num) else none)
 else bif decide (t.kind=25) then (bif ((decide (t.num=0) || decide (t.num=1))&&plainB t)&&lenK t 0 then some (true,t.num) else none)
 else bif decide (t.kind=31)&&lenK t 1 then oneO t (r 0)
 else bif decide (t.kind=32)&&lenK t 2 then twoO t.text (r 0) (r 1)
 else none
theorem Qnf(t:Nd):valO t=oF t fun i=>valO (Zb t i):=by
 rw [valO,Qlf,valF,oF]
 cases decide (t.kind=24) with
 | true=>rfl
 | false =>
 cases decide (t.kind=25) with
 | true=>rfl
 | false =>
 cases decide (t.kind=31)&&lenK t 1 with
 | true =>
  simp only [Wug,Wtg,valO,oneO]
  cases (valC (Zb t 0)).2 with
  | false=>rfl
  | true =>
   simp only [Ama,Wug];cases decide (t.text=[45]) <;> cases decide (t.text=[33]) <;> cases (valC (Zb t 0)).1.1 <;> rfl
 | false =>
 cases decide (t.kind=32)&&lenK t 2 with
 | true =>
  simp only [Wug,Wtg,valO,twoO];cases (valC (Zb t 0)).2 <;> cases (valC (Zb t 1)).2 <;> first|rfl|skip
  simp only [Ama,Wug];cases (valC (Zb t 0)).1.1 == (valC (Zb t 1)).1.1 <;> rfl
 | false=>rfl
theorem valO_iff{t:Nd}{c:Cst}:valO t=some c↔(valC t).2=true∧(valC t).1=c:=by
 rw [valO];cases (valC t).2 <;> simp
theorem Uqe{t:Nd}{c:Cst}(h:valO t=some c):t.kind=24∨t.kind=25∨(t.kind=31∧t.kids.length=1)∨(t.kind=32∧t.kids.length=2):=by
 rw [Qnf,oF] at h;by_cases h1:t.kind=24;exact .inl h1;by_cases h2:t.kind=25;exact .inr (.inl h2);rw [Wmg h1,Wmg h2] at h
 cases h3:decide (t.kind=31)&&lenK t 1 with
 | true =>
  rw [Aba,Wpg] at h3;exact .inr (.inr (.inl ⟨h3.1,by (have hz:=h3.2;first|(unfold lenK at hz;simp at hz;omega)|(simp at hz;omega))⟩))
 | false =>
  cases h4:decide (t.kind=32)&&lenK t 2 with
  | true =>
   rw [Aba,Wpg] at h4;exact .inr (.inr (.inr ⟨h4.1,by (have hz:=h4.2;first|(unfold lenK at hz;simp at hz;omega)|(simp at hz;omega))⟩))
  | false=>rw [h3,h4] at h;cases h
/-! replaced constants -/
/-! folded trees, case by case -/
def rebT(t:Nd):Nd:=.mk t.kind t.text (bif decide (t.kind=24) || decide (t.kind=25) then t.num else 0) t.pos (t.kids.map foldT) ty0 0 0
def blP(pos:Int):Nd:=.mk 10 [] 0 pos [] ty0 0 0
theorem Zie{t:Nd}(hp:permF t=true) :
 (∃ c,valO t=some c∧(replT c t.pos).2=true∧foldT t=(replT c t.pos).1)∨
 (t.kind=18∧t.kids.length=3∧valO (Zb t 0)≠none∧(foldT t=foldT (Zb t 1)∨((Zb t 2).kind=9∧foldT t=blP t.pos)∨((Zb t 2).kind≠9∧foldT t=foldT (Zb t 2))))∨
 ((∀ c,valO t=some c→(replT c t.pos).2=false)∧(t.kind=18→valO (Zb t 0)=none)∧foldT t=rebT t):=by
 cases h1:(valC t).2&&(replT (valC t).1 t.pos).2 with
 | true =>
  rw [Aba] at h1;exact .inl ⟨(valC t).1,valO_iff.2 ⟨h1.1,rfl⟩,h1.2,by rw [Uhc,foldF,h1.1,h1.2];rfl⟩
 | false =>
  have hn:∀ c,valO t=some c→(replT c t.pos).2=false:=fun c hc=>by
   obtain ⟨e1,e2⟩:=valO_iff.1 hc;rw [← e2];rw [e1] at h1;exact h1
  cases h2:decide (t.kind=18)&&(valC (Zb t 0)).2 with
  | true =>
   have h2':=h2;rw [Aba,Wpg] at h2';have hl:=Qmf h2'.1 hp;refine .inr (.inl ⟨h2'.1,hl,by rw [valO,h2'.2];exact Option.some_ne_none _,?_⟩);rw [Uhc t,foldF,h1,h2];simp only [Wug,Wtg];rw [Jpc (show 1<t.kids.length by omega),Jpc (show 2<t.kids.length by omega)]
   cases decide ((valC (Zb t 0)).1.2=1) with
   | true=>exact .inl rfl
   | false =>
    simp only [Wtg];by_cases h9:(Zb t 2).kind=9;rw [Wng h9];exact .inr (.inl ⟨h9,rfl⟩);rw [Wmg h9];exact .inr (.inr ⟨h9,rfl⟩)
  | false =>
   refine .inr (.inr ⟨hn,fun h=>?_,by rw [Uhc,foldF,h1,h2];rfl⟩);rw [Wng h,Ama] at h2;rw [valO,h2];rfl
theorem Ure{t:Nd}(h1:t.kind≠24)(h2:t.kind≠25)(h3:t.kind≠31)(h4:t.kind≠32):valO t=none:=by
 cases h:valO t with
 | none=>rfl
 | some c=>rcases Uqe h with e|e|e|e <;> first|exact absurd e (by assumption)|exact absurd e.1 (by assumption)
theorem Xlf{t:Nd}(hp:permF t=true)(h1:valO t=none)(h2:t.kind≠18):foldT t=rebT t:=by
 rcases Zie hp with ⟨c,h,_⟩|⟨h,_⟩|⟨_,_,e⟩;rw [h1] at h;cases h;exact absurd h h2;exact e
/-! errors -/
theorem Ucd{a e:Int}{S:CSt}(he:e≠0):(failS a e S).ee≠0:=by
 unfold failS;by_cases h:S.ee=0;rw [Wng h];exact he;rw [Wmg h];exact h
theorem fu{b:Bool}{a e:Int}{S:CSt}(h:(failU b a e S).ee=0)(he:e≠0:=by decide):b=true∧S.ee=0:=by
 cases b;exact absurd h (Ucd he);exact ⟨rfl,h⟩
/-! states that are alike but for numbers -/
def vk(v:Vr):List UInt8×Ty×Nat×Nat:=(v.name,v.typ,v.level,v.scope)
structure Sim (S T:CSt):Prop where
  vars:T.vars.map vk=S.vars.map vk
  scope:T.scope=S.scope
  level:T.level=S.level
  result:T.result=S.result
  es:S.ee=0
  et:T.ee=0
  sc:Sc S
theorem Jqc(sc:Nat)(l:List Vr):(dropV sc l).map vk=((l.map vk).reverse.dropWhile fun k=>decide (k.2.2.2=sc)).reverse:=by
 unfold dropV;rw [List.map_reverse,← List.map_reverse (l:=l),List.dropWhile_map];rfl
theorem Udd(S:CSt)(s:List UInt8):dupV S s=(S.vars.map vk).any fun k=>decide (k.2.2.2=S.scope)&&decide (k.1=s):=by
 rw [dupV,List.any_map];rfl
theorem Sim.open{S T:CSt}(h:Sim S T):Sim (openS S) (openS T):=⟨h.vars,congrArg (· + 1) h.scope,h.level,h.result,h.es,h.et,Yeb h.sc⟩
theorem Sim.shut{S T:CSt}(h:Sim S T)(hs:Sc (shutS S)):Sim (shutS S) (shutS T) :=
 ⟨by show (dropV _ _).map vk=(dropV _ _).map vk;rw [Jqc,Jqc,h.vars,h.scope],congrArg (· - 1) h.scope,h.level,h.result,h.es,h.et,hs⟩
theorem Sim.lit{S T:CSt}(h:Sim S T):Sim (litS S) (litS T):=⟨h.vars,h.scope,congrArg (· + 1) h.level,rfl,h.es,h.et,h.sc⟩
theorem Sim.unlit{S T U V:CSt}(h:Sim S T)(k:Sim U V):Sim { U with level:=U.level-1,result:=S.result } { V with level:=V.level-1,result:=T.result } :=
 ⟨k.vars,k.scope,congrArg (· - 1) k.level,h.result,k.es,k.et,k.sc⟩
theorem Sim.failu{S T:CSt}{b b':Bool}{a a' e e':Int}(h:S.ee=0→Sim S T)(hb:b=true→b'=true)(hz:(failU b a e S).ee=0)(he:e≠0:=by decide):Sim (failU b a e S) (failU b' a' e' T):=by
 obtain ⟨h1,h2⟩:=fu hz he;rw [h1,hb h1];exact h h2
theorem Sim.dup{S T:CSt}(h:Sim S T)(s:List UInt8):dupV T s=dupV S s:=by rw [Udd,Udd,h.vars,h.scope]
theorem Sim.decl{S T:CSt}(h:S.ee=0→Sim S T)(s:List UInt8)(y:Ty)(a a':Int)(hz:(declS s y a S).ee=0):Sim (declS s y a S) (declS s y a' T):=by
 obtain ⟨h1,h2⟩:=fu (b:=!dupV S s) (a:=a) (e:=6) (S:=S) hz;have h:=h h2;have h3:(!dupV T s)=true:=by rw [h.dup];exact h1
 have hs:=(Yra s y a S).sc h.sc;unfold declS at hs ⊢;rw [h1] at hs ⊢;rw [h3];refine ⟨?_,h.scope,h.level,h.result,h.es,h.et,hs⟩;show (T.vars++[_]).map vk=(S.vars++[_]).map vk;rw [Aqa,Aqa,h.vars];show _++[(s,y,T.level,T.scope)]=_++[(s,y,S.level,S.scope)];rw [h.level,h.scope]
theorem Sim.frame{S T U V:CSt}{d d':Nat}(h:Sim S T)(h1:Vs S U)(h2:Stp d S U)(h3:U.ee=0)(k1:Vs T V)(k2:Stp d' T V)(k3:V.ee=0):Sim U V :=
 ⟨by rw [k1.vars,h1.vars,h.vars],by rw [k1.scope,h1.scope,h.scope],by rw [k2.level,h2.level,h.level],by rw [k2.result,h2.result,h.result],h3,k3,h1.sc h.sc⟩
/-! nodes that are alike -/
structure XR (x y:Nd):Prop where
  ty:y.ty=x.ty
  ref:y.ref=x.ref
  kd:y.kind=x.kind∨(x.kind≠27∧x.kind≠28∧x.kind≠29)
def SEx(c c':Ck):Prop:=∀ S T,Sim S T→(c.ex S).2.ee=0→Sim (c.ex S).2 (c'.ex T).2∧XR (c.ex S).1 (c'.ex T).1
def SMem(c c':Ck):Prop:=∀ S T,Sim S T→(c.mem S).2.ee=0→Sim (c.mem S).2 (c'.mem T).2∧(c'.mem T).1.2=(c.mem S).1.2∧(c'.mem T).1.1.ty=(c.mem S).1.1.ty
def SRcv(c c':Ck):Prop:=∀ S T,Sim S T→((c.rcv S).2=true→(c'.rcv T).2=true∧(c'.rcv T).1.ty=(c.rcv S).1.ty)∧((c.rcv S).2=false→(c.ex S).2.ee=0→(c'.rcv T).2=false)
def SCal(c c':Ck):Prop:=∀ S T,Sim S T→(c.cal S).2.ee=0→Sim (c.cal S).2 (c'.cal T).2∧(c'.cal T).1.2=(c.cal S).1.2
def SSt(c c':Ck):Prop:=∀ S T,Sim S T→(c.st S).2.ee=0→Sim (c.st S).2 (c'.st T).2
def SSts(c c':Ck):Prop:=∀ S T,Sim S T→(c.sts S).2.ee=0→Sim (c.sts S).2 (c'.sts T).2
def SCas(c c':Ck):Prop:=∀ f S T,Sim S T→(c.cas f S).2.ee=0→Sim (c.cas f S).2 (c'.cas f T).2
def elsR(k:Int)(c:Ck)(S:CSt):CSt:=bif decide (k=10) then (c.blk S).2 else bif decide (k=18) then (c.ifs S).2 else S
def SEls(k k':Int)(c c':Ck):Prop:=∀ S T,Sim S T→(elsR k c S).ee=0→Sim (elsR k c S) (elsR k' c' T)
structure FR (k k':Int) (c c':Ck):Prop where
  ex:expK k=true→SEx c c'
  mem:k=28→SMem c c'
  rcv:expK k=true→SRcv c c'
  cal:expK k=true→SCal c c'
  st:stK k=true→SSt c c'
  sts:k=10→SSts c c'
  cas:k=23→SCas c c'
  els:k=10∨k=18∨k=9→SEls k k' c c'
/-! declarations of the folded file -/
structure FOk (F:Nd):Prop where
  kind:F.kind=1
  perm:permF F=true
  ok:okNd F
theorem FOk.reb{F:Nd}(H:FOk F):foldT F=rebT F:=Xlf H.perm (Ure (by rw [H.kind];decide) (by rw [H.kind];decide) (by rw [H.kind];decide) (by rw [H.kind];decide)) (by rw [H.kind];decide)
theorem FOk.kids{F:Nd}(H:FOk F):(foldT F).kids=F.kids.map foldT:=by rw [H.reb];rfl
/-! shapes of declarations -/
theorem Upa{t:Nd}(hp:permF t=true):(formB t&&t.kids.all permF)=true:=by
 rw [Vz,locB,Aba,Aba] at hp;exact Aja.2 ⟨hp.1.2,hp.2⟩
theorem Xjd{t:Nd}(h:typK t.kind=true)(hp:permF t=true):isTypeB t=true:=by rw [Ycb,h,hp];rfl
theorem Qpf{t:Nd}(h:t.kind=9)(hp:permF t=true):noneB t=true:=by rw [Qka,Wng h,hp];rfl
theorem pf4{t:Nd}(h:t.kind=4)(hp:permF t=true):t.kids.length=3∧((Zb t 0).kind=5∧permF (Zb t 0)=true)∧(isTypeB (Zb t 1)=true∨noneB (Zb t 1)=true)∧((Zb t 2).kind=10∧permF (Zb t 2)=true):=by
 have hf:=Upa hp;rw [formB,h] at hf;have hf:(kidsB t [memK [5],fun k=>typK k || memK [9] k,memK [10]]&&t.kids.all permF)=true:=hf;rw [Jed] at hf;simp only [Aba,Qk,Wpg,Bool.or_eq_true] at hf;refine ⟨by have:=hf.1;(have hz:=this;first|(unfold lenK at hz;simp at hz;omega)|(simp at hz;omega)),hf.2.1.1,?_,hf.2.2⟩;rcases hf.2.1.2.1 with q|q;exact .inl (Xjd q hf.2.1.2.2);exact .inr (Qpf q hf.2.1.2.2)
theorem pf6{t:Nd}(h:t.kind=6)(hp:permF t=true):t.kids.length=2∧isTypeB (Zb t 0)=true∧permF (Zb t 1)=true:=by
 have hf:=Upa hp;rw [formB,h] at hf;have hf:(kidsB t [typK,fun k=>expK k || memK [9] k]&&t.kids.all permF)=true:=hf;rw [Ykd] at hf;simp only [Aba] at hf;exact ⟨by have:=hf.1;(have hz:=this;first|(unfold lenK at hz;simp at hz;omega)|(simp at hz;omega)),Xjd hf.2.1.1 hf.2.1.2,hf.2.2.2⟩
theorem pf3{t:Nd}(h:t.kind=3)(hp:permF t=true):t.kids.length=1∧isTypeB (Zb t 0)=true:=by
 have hf:=Upa hp;rw [formB,h] at hf;have hf:(kidsB t [typK]&&t.kids.all permF)=true:=hf;rw [Jdd] at hf;simp only [Aba] at hf;exact ⟨by have:=hf.1;(have hz:=this;first|(unfold lenK at hz;simp at hz;omega)|(simp at hz;omega)),Xjd hf.2.1 hf.2.2⟩
theorem Yea{t:Nd}(h:t.kind=2∨t.kind=5)(hp:permF t=true):∀ f∈t.kids,f.kind=3∧permF f=true:=by
 have hf:=Upa hp;have hf:(everyB t (memK [3])&&t.kids.all permF)=true:=by rcases h with h|h <;> (rw [formB,h] at hf;exact hf)
 rw [Aba,everyB,Aga,Aga] at hf;intro f hm;have:=hf.1 f hm;rw [Qk,Wpg] at this;exact ⟨this,hf.2 f hm⟩
/-! what the declarations tell -/
theorem Xle{P:Fa}{n:Nat}{σ:List Ent}{c:Prop}{wb:Aa}{ty:Ba}{t kt e b:Nat}{x:Ea}{es:List (List UInt8×Ga)}(ht:P.underlying t=some (.map kt e))(h:MapS wb b es)(hx:Ev n σ c x (.map (some b))) :
 Rd P n σ c wb (.call { callee:=.builtin .len,args:=#[x],argTypes:=#[t] }) ty (.int .i64 es.length):=.mk fun d pos after gd act ha hc w1 hg=>by
 obtain ⟨ms,cl,hb,hm⟩:=h.grow hg
 have hl:ms.size=es.length:=by
  have:=congrArg List.length hm;rwa [Ara,Ara,Array.length_toList] at this
 simp [execOp,resolve,invoke,builtin,hx act ha hc,Builtin.len_,run_underlying ht,MapKept.run_getObj_map hb,goInt,hl]
/-! the file's shape -/
theorem Wib{F:Nd}(h:validB F=true):F.kind=1∧permF F=true:=by
 unfold validB at h;simp only [Aba] at h;unfold permB at h;simp only [Aba,Wpg] at h;exact ⟨h.1,h.2.1⟩
theorem Yqc{F:Nd}(h1:F.kind=1)(hp:permF F=true):∀ d∈F.kids,(d.kind=2∨d.kind=6∨d.kind=4)∧permF d=true:=by
 have hf:=Upa hp;rw [formB,h1] at hf;have hf:((!(F.kids.any fileVarB)&&everyB F (memK [2,6,4]))&&F.kids.all permF)=true:=hf;simp only [Aba,everyB,Aga] at hf;exact fun d hm=>⟨by have:=hf.1.2 d hm;unfold memK at this;simpa using this,hf.2 d hm⟩
theorem Jaa{t:Nd}{i:Nat}(h:i<t.kids.length):Zb t i∈t.kids:=by rw [Yz h];exact List.getElem_mem h
theorem Uic{t:Nd}{i:Nat}(h:i<t.kids.length):t.kids.take (i+1)=t.kids.take i++[Zb t i]:=by
 rw [Yz h,Asa h]
/-! names that are told twice -/
theorem Zje{F:Nd}{S:CSt}:∀ {i:Nat},(∀ j,j<i→dupAt F j=false)→namA F S i=S
 | 0,_=>rfl
 | i+1,h=>by
  show failU (!dupAt F i) _ 6 (namA F S i)=S;rw [h i O,Zje fun j hj=>h j O];rfl
theorem Xmf(F:Nd)(S:CSt)(i:Nat):∀ k,Er (namA F S i) (namA F S (i+k))
 | 0=>Er.refl _
 | k+1=>(Xmf F S i k).failu _ _ _
theorem Qqf{F:Nd}{S:CSt}(he:S.ee=0){i n:Nat}(hi:i<n)(h0:∀ j,j<i→dupAt F j=false)(h:dupAt F i=true):(namA F S n).ee=6∧(namA F S n).ea=(Zb F i).pos:=by
 have e:namA F S (i+1) = { S with ea:=(Zb F i).pos,ee:=6 }:=by
  show failU (!dupAt F i) _ 6 (namA F S i)=_;rw [h,Zje h0];exact Wda he _ _
 have k:=Xmf F S (i+1) (n-(i+1));rw [show i+1+(n-(i+1))=n by omega,e] at k;exact k (show (6:Int)≠0 by decide)
/-! tables that grow -/
theorem Jrc(kd:Int)(f:Nat→Nd→Ga){F:Nd}{i:Nat}(h:i<F.kids.length):numK kd f (F.kids.take (i+1)) 0=numK kd f (F.kids.take i) 0++(bif decide ((Zb F i).kind=kd) then [((Zb F i).text,f (cntK kd (F.kids.take i)) (Zb F i))] else []):=by
 rw [Uic h,Vqc,Afa]
theorem Jba(kd:Int)(f:Nat→Nd→Ga){F:Nd}{i:Nat}(h:i<F.kids.length)(hk:(Zb F i).kind≠kd):numK kd f (F.kids.take (i+1)) 0=numK kd f (F.kids.take i) 0:=by
 rw [Jrc kd f h,Wmg hk];exact List.append_nil _
theorem Jtb{kd:Int}(f:Nat→Nd→Ga){F:Nd}{i:Nat}(h:i<F.kids.length)(hk:(Zb F i).kind=kd):numK kd f (F.kids.take (i+1)) 0=numK kd f (F.kids.take i) 0++[((Zb F i).text,f (cntK kd (F.kids.take i)) (Zb F i))]:=by
 rw [Jrc kd f h,Wng hk];rfl
theorem Vcb{F:Nd}{i:Nat}(h:i<F.kids.length):allK (F.kids.take (i+1))=allK (F.kids.take i)++[((Zb F i).text,.bool true)]:=by
 rw [Uic h];unfold allK;rw [Aqa];rfl
theorem Qeb{kd:Int}{f g:Nat→Nd→Ga}:∀ (l:List Nd) (k:Nat),(∀ j d,j<k+cntK kd l→f j d=g j d)→numK kd f l k=numK kd g l k
 | [],k,h=>rfl
 | d::l,k,h=>by
  unfold numK;cases hd:decide (d.kind=kd);exact Qeb (kd:=kd) l k fun j e hj=>h j e (by rw [Wba kd,hd];show j<k+(0+cntK kd l);omega);have h1:=Qeb (kd:=kd) (f:=f) (g:=g) l (k+1) fun j e hj=>h j e (by rw [Wba kd,hd];show j<k+(1+cntK kd l);omega);have h2:=h k d (by rw [Wba kd,hd];show k<k+(1+cntK kd l);omega);rw [h1,h2];rfl
theorem Ywg{F:Nd}{i:Nat}(h:dupAt F i=false):∀ d∈F.kids.take i,d.text≠(Zb F i).text:=fun d hd e=>by
 unfold dupAt at h;rw [List.any_eq_false] at h;exact h d hd (Wng e)
theorem Zkb{F:Nd}{i:Nat}(h:dupAt F i=false)(kd:Int)(f:Nat→Nd→Ga):lookS (numK kd f (F.kids.take i) 0) (Zb F i).text=none:=Yfc (Ywg h)
theorem Jsc{F:Nd}{i:Nat}(h:dupAt F i=false):lookS (allK (F.kids.take i)) (Zb F i).text=none:=by
 rw [Vkd];unfold dupAt at h;rw [h];rfl
theorem Qrf{F:Nd}{kd:Int}{j i:Nat}(hj:j<i)(hi:i≤F.kids.length)(hk:(Zb F j).kind=kd):cntK kd (F.kids.take j)<cntK kd (F.kids.take i):=by
 have h1:cntK kd (F.kids.take (j+1))=cntK kd (F.kids.take j)+1:=by
  rw [Uic O,Zuf,Wng hk];rfl
 have h2:cntK kd (F.kids.take (j+1))≤cntK kd (F.kids.take i):=by
  unfold cntK;exact ((List.take_sublist_take_left O).filter _).length_le
 omega
theorem Jub(kd:Int)(s:List UInt8):∀ (l:List Nd) (k:Nat),0≤(findK kd s l k).2→∃ j,∃ h:j<l.length,l[j].kind=kd∧(findK kd s l k).1=l[j]∧(findK kd s l k).2.toNat=k+cntK kd (l.take j)
 | [],k,h=>absurd h (show ¬ (0:Int)≤-1 by decide)
 | d::l,k,h=>by
  unfold findK at h ⊢;cases hd:decide (d.kind=kd);rw [hd,Wtg] at h;obtain ⟨j,hj,h1,h2,h3⟩:=Jub kd s l k h;exact ⟨j+1,by simp;omega,h1,h2,by rw [Ava,Wba,hd];show _=k+(0+_);rw [Afa];exact h3⟩;rw [hd,Wug] at h;cases hs:decide (d.text=s);rw [hs,Wtg] at h;obtain ⟨j,hj,h1,h2,h3⟩:=Jub kd s l (k+1) h;exact ⟨j+1,by simp;omega,h1,h2,by rw [Ava,Wba,hd];show _=k+(1+_);rw [← Nat.add_assoc];exact h3⟩;exact ⟨0,by simp,Wrg hd,rfl,by show (k:Int).toNat=k+0;omega⟩
/-! rows of types -/
section
variable {w w':Aa} {TB:List Nat} {l:List Ty} {v:Ga}
theorem RowM.keepM{m:Nat}{es:List (List UInt8×Ga)}(h:RowM TB w l v)(hM:MapS w m es)(hg:w.grownBy w' (some m)):RowM TB w' l v:=h.same fun k _ hk ⟨cs,fr,hc⟩=>hg.block k hk fun e=>by
 injection e with e;subst e;obtain ⟨ms,c,hb,_⟩:=hM;rw [hb] at hc;injection hc with hc;cases hc
theorem RowM.keepB{j:Nat}{e:Ba}{xs:List Ga}(h:RowM TB w l v)(hB:Blk w j e xs)(he:Aka e 24=false)(hg:w.grownBy w' (some j)):RowM TB w' l v:=h.same fun k _ hk ⟨cs,fr,hc⟩=>hg.block k hk fun e=>by
 injection e with e;subst e;unfold Blk at hB;rw [hB] at hc;injection hc with hc;injection hc with _ hc;subst hc;simp at he
theorem RowM.keepR{row:Option Nat}(h:RowM TB w l v)(hr:∀ k,row=some k→k∉TB)(hg:w.grownBy w' row):RowM TB w' l v:=h.same fun k hk hlt _=>hg.block k hlt fun e=>hr k e.symm hk
theorem RowM.mono{Y:List Nat}(h:RowM TB w l v)(hY:∀ j∈TB,j∈Y):RowM Y w l v:=by
 obtain ⟨p,c,e,h⟩:=h;refine ⟨p,c,e,fun h0=>?_⟩;obtain ⟨b,o,cs,fr,h1,h2,h3⟩:=h h0;exact ⟨b,o,cs,fr,h1,hY b h2,h3⟩
theorem Xnf{lo:Nat}(h:w.ownsRow lo 24 2 v l.length (l.flatMap tyCells)):RowM v.ownBlock.toList w l v:=by
 obtain ⟨a,c,hv,_⟩:=Zpa h;refine ⟨a,c,hv,fun h0=>?_⟩;obtain ⟨g,c',hv',_,hR,_⟩:=Qva h h0;rcases h.2 with ⟨h1,_⟩|⟨g',cap,cur,h1,h2,h3,_⟩;rw [hv'] at h1;injection h1 with h1;cases h1;rw [hv'] at h1;injection h1 with h1 _ _;injection h1 with h1;injection h1 with h1 _ _;subst h1;rw [hv] at hv';injection hv' with hv' _ _;subst hv';exact ⟨g,0,_,_,rfl,by rw [hv];exact List.mem_singleton.2 rfl,h3,hR⟩
end
structure TabE (F:Nd) (n0 b:Nat) (fv:Ga) (ms mg mn mf m2:Nat) (pv:Nat→Ga) (TB:List Nat) (es eg en ef eq:List (List UInt8×Ga)) (i:Nat) (w:Aa):Prop where
  B:Blk w b 59 (pcCells F fv ms mg mn mf (.slice none 0 0) (.slice none 0 0) (.slice none 0 0))
  hs:MapS w ms es
  hg:MapS w mg eg
  hn:MapS w mn en
  hf:MapS w mf ef
  hq:MapS w m2 eq
  hp:∀ j,j<i→(Zb F j).kind=4→RowM TB w (parT (Zb F j)) (pv (cntK 4 (F.kids.take j)))
  tb:∀ j∈TB,n0≤j∧j<w.heap.size
  ds:(ms≠mg∧ms≠mn∧ms≠mf∧ms≠m2)∧(mg≠mn∧mg≠mf∧mg≠m2)∧(mn≠mf∧mn≠m2)∧mf≠m2
section
variable {F:Nd} {n0 b:Nat} {fv:Ga} {ms mg mn mf m2:Nat} {pv:Nat→Ga} {TB:List Nat} {es eg en ef eq es' eg' en' ef' eq':List (List UInt8×Ga)} {i:Nat} {w w':Aa}
theorem TabE.fr(h:TabE F n0 b fv ms mg mn mf m2 pv TB es eg en ef eq i w)(hz:w.heap.size≤w'.heap.size)(hB:w'.heap[b]? = w.heap[b]?)(hP:∀ l v,RowM TB w l v→RowM TB w' l v)(s:MapS w' ms es')(g:MapS w' mg eg')(n:MapS w' mn en')(f:MapS w' mf ef')(q:MapS w' m2 eq'):TabE F n0 b fv ms mg mn mf m2 pv TB es' eg' en' ef' eq' i w' :=
 ⟨hB.trans h.B,s,g,n,f,q,fun j hj hk=>hP _ _ (h.hp j hj hk),fun j hj=>⟨(h.tb j hj).1,Aca (h.tb j hj).2 hz⟩,h.ds⟩
theorem TabE.grow(h:TabE F n0 b fv ms mg mn mf m2 pv TB es eg en ef eq i w)(g:G w w'):TabE F n0 b fv ms mg mn mf m2 pv TB es eg en ef eq i w' :=
 h.fr g.size (g.block h.B.lt) (fun _ _ k=>k.grow g) (h.hs.grow g) (h.hg.grow g) (h.hn.grow g) (h.hf.grow g) (h.hq.grow g)
theorem TabE.keep(h:TabE F n0 b fv ms mg mn mf m2 pv TB es eg en ef eq i w){j:Nat}{e:Ba}{xs:List Ga}(hg:w.grownBy w' (some j))(hB:Blk w j e xs)(he:(Aka e 24 || Aka e 59)=false):TabE F n0 b fv ms mg mn mf m2 pv TB es eg en ef eq i w':=by
 have he:=Awa.1 he;have m:∀ {m es},MapS w m es→MapS w' m es:=fun hm=>hm.keep hg fun q=>hm.nblk hB (by injection q);exact h.fr hg.size (hg.block b h.B.lt fun q=>by injection q with q;subst q;unfold Blk at hB;have:=h.B;unfold Blk at this;rw [this] at hB;injection hB with hB;injection hB with _ hB;subst hB;simp at he) (fun _ _ k=>k.keepB hB he.1 hg) (m h.hs) (m h.hg) (m h.hn) (m h.hf) (m h.hq)
theorem TabE.keepO(h:TabE F n0 b fv ms mg mn mf m2 pv TB es eg en ef eq i w){lo z m:Nat}{v:Ga}{xs:List Ga}(ho:w.ownsRow lo 24 z v m xs)(hg:w.grownBy w' v.ownBlock)(hlo:∀ j∈TB,j<lo):TabE F n0 b fv ms mg mn mf m2 pv TB es eg en ef eq i w':=by
 have mm:∀ {m es},MapS w m es→MapS w' m es:=fun hm=>hm.keep hg fun q=>by
  obtain ⟨ms,c,hb,_⟩:=hm;rcases ho.2 with ⟨h1,_⟩|⟨g,cap,cur,h1,h2,h3,_⟩;rw [h1] at q;cases q;rw [h1] at q;injection q with q;subst q;rw [hb] at h3;injection h3 with h3;cases h3
 exact h.fr hg.size (hg.block b h.B.lt fun q=>Wb ho h.B rfl q.symm) (fun _ _ k=>k.keepR (fun j hj hm=>by have:=(ho.lt j hj).1;have:=hlo j hm;omega) hg) (mm h.hs) (mm h.hg) (mm h.hn) (mm h.hf) (mm h.hq)
theorem Wa{a c:Nat}(h:a≠c):some a≠some c:=fun e=>h (by injection e)
theorem TabE.us(h:TabE F n0 b fv ms mg mn mf m2 pv TB es eg en ef eq i w)(hg:w.grownBy w' (some ms))(m:MapS w' ms es'):TabE F n0 b fv ms mg mn mf m2 pv TB es' eg en ef eq i w' :=
 h.fr hg.size (hg.block b h.B.lt (Wa (h.hs.nblk h.B).symm)) (fun _ _ k=>k.keepM h.hs hg) m (h.hg.keep hg (Wa h.ds.1.1.symm)) (h.hn.keep hg (Wa h.ds.1.2.1.symm)) (h.hf.keep hg (Wa h.ds.1.2.2.1.symm)) (h.hq.keep hg (Wa h.ds.1.2.2.2.symm))
theorem TabE.ug(h:TabE F n0 b fv ms mg mn mf m2 pv TB es eg en ef eq i w)(hg:w.grownBy w' (some mg))(m:MapS w' mg eg'):TabE F n0 b fv ms mg mn mf m2 pv TB es eg' en ef eq i w' :=
 h.fr hg.size (hg.block b h.B.lt (Wa (h.hg.nblk h.B).symm)) (fun _ _ k=>k.keepM h.hg hg) (h.hs.keep hg (Wa h.ds.1.1)) m (h.hn.keep hg (Wa h.ds.2.1.1.symm)) (h.hf.keep hg (Wa h.ds.2.1.2.1.symm)) (h.hq.keep hg (Wa h.ds.2.1.2.2.symm))
theorem TabE.un(h:TabE F n0 b fv ms mg mn mf m2 pv TB es eg en ef eq i w)(hg:w.grownBy w' (some mn))(m:MapS w' mn en'):TabE F n0 b fv ms mg mn mf m2 pv TB es eg en' ef eq i w' :=
 h.fr hg.size (hg.block b h.B.lt (Wa (h.hn.nblk h.B).symm)) (fun _ _ k=>k.keepM h.hn hg) (h.hs.keep hg (Wa h.ds.1.2.1)) (h.hg.keep hg (Wa h.ds.2.1.1)) m (h.hf.keep hg (Wa h.ds.2.2.1.1.symm)) (h.hq.keep hg (Wa h.ds.2.2.1.2.symm))
theorem TabE.uf(h:TabE F n0 b fv ms mg mn mf m2 pv TB es eg en ef eq i w)(hg:w.grownBy w' (some mf))(m:MapS w' mf ef'):TabE F n0 b fv ms mg mn mf m2 pv TB es eg en ef' eq i w' :=
 h.fr hg.size (hg.block b h.B.lt (Wa (h.hf.nblk h.B).symm)) (fun _ _ k=>k.keepM h.hf hg) (h.hs.keep hg (Wa h.ds.1.2.2.1)) (h.hg.keep hg (Wa h.ds.2.1.2.1)) (h.hn.keep hg (Wa h.ds.2.2.1.1)) m (h.hq.keep hg (Wa h.ds.2.2.2.symm))
theorem TabE.uq(h:TabE F n0 b fv ms mg mn mf m2 pv TB es eg en ef eq i w)(hg:w.grownBy w' (some m2))(m:MapS w' m2 eq'):TabE F n0 b fv ms mg mn mf m2 pv TB es eg en ef eq' i w' :=
 h.fr hg.size (hg.block b h.B.lt (Wa (h.hq.nblk h.B).symm)) (fun _ _ k=>k.keepM h.hq hg) (h.hs.keep hg (Wa h.ds.1.2.2.2)) (h.hg.keep hg (Wa h.ds.2.1.2.2)) (h.hn.keep hg (Wa h.ds.2.2.1.2)) (h.hf.keep hg (Wa h.ds.2.2.2)) m
def EnT(F:Nd)(n0 b:Nat)(fv:Ga)(ms mg mn mf m2:Nat)(pv:Nat→Ga)(TB:List Nat)(i:Nat)(w:Aa):Prop :=
 TabE F n0 b fv ms mg mn mf m2 pv TB (numK 2 (fun _ _=>.bool true) (F.kids.take i) 0) (numK 6 (fun _ d=>tyV (ofF (Zb d 0)).1) (F.kids.take i) 0) (numK 6 (fun k _=>.int .i64 k) (F.kids.take i) 0) (numK 4 (fun k d=>fnV k (pv k) (resT d)) (F.kids.take i) 0) (allK (F.kids.take i)) i w
theorem TabE.next(h:TabE F n0 b fv ms mg mn mf m2 pv TB es eg en ef eq i w)(hi:i<F.kids.length)(hk:(Zb F i).kind≠4):TabE F n0 b fv ms mg mn mf m2 pv TB es eg en ef eq (i+1) w :=
 ⟨h.B,h.hs,h.hg,h.hn,h.hf,h.hq,fun j hj hk2=>h.hp j (by
 have:j≠i:=fun e=>hk (by rw [← e];exact hk2);omega) hk2,h.tb,h.ds⟩
theorem ent_2(hi:i<F.kids.length)(hk:(Zb F i).kind=2)(h:TabE F n0 b fv ms mg mn mf m2 pv TB (numK 2 (fun _ _=>.bool true) (F.kids.take i) 0++[((Zb F i).text,.bool true)]) (numK 6 (fun _ d=>tyV (ofF (Zb d 0)).1) (F.kids.take i) 0) (numK 6 (fun k _=>.int .i64 k) (F.kids.take i) 0) (numK 4 (fun k d=>fnV k (pv k) (resT d)) (F.kids.take i) 0) (allK (F.kids.take i)++[((Zb F i).text,.bool true)]) i w):EnT F n0 b fv ms mg mn mf m2 pv TB (i+1) w:=by
 unfold EnT;rw [Jtb _ hi hk,Jba _ _ hi (by rw [hk];decide),Jba _ _ hi (by rw [hk];decide),Jba _ _ hi (by rw [hk];decide),Vcb hi];exact h.next hi (by rw [hk];decide)
theorem ent_6(hi:i<F.kids.length)(hk:(Zb F i).kind=6)(h:TabE F n0 b fv ms mg mn mf m2 pv TB (numK 2 (fun _ _=>.bool true) (F.kids.take i) 0) (numK 6 (fun _ d=>tyV (ofF (Zb d 0)).1) (F.kids.take i) 0++[((Zb F i).text,tyV (ofF (Zb (Zb F i) 0)).1)]) (numK 6 (fun k _=>.int .i64 k) (F.kids.take i) 0++[((Zb F i).text,.int .i64 (cntK 6 (F.kids.take i)))]) (numK 4 (fun k d=>fnV k (pv k) (resT d)) (F.kids.take i) 0) (allK (F.kids.take i)++[((Zb F i).text,.bool true)]) i w):EnT F n0 b fv ms mg mn mf m2 pv TB (i+1) w:=by
 unfold EnT;rw [Jba _ _ hi (by rw [hk];decide),Jtb _ hi hk,Jtb _ hi hk,Jba _ _ hi (by rw [hk];decide),Vcb hi];exact h.next hi (by rw [hk];decide)
theorem Jzf(hi:i<F.kids.length)(hk:(Zb F i).kind=4){v:Ga}(h:TabE F n0 b fv ms mg mn mf m2 pv TB (numK 2 (fun _ _=>.bool true) (F.kids.take i) 0) (numK 6 (fun _ d=>tyV (ofF (Zb d 0)).1) (F.kids.take i) 0) (numK 6 (fun k _=>.int .i64 k) (F.kids.take i) 0) (numK 4 (fun k d=>fnV k (pv k) (resT d)) (F.kids.take i) 0++[((Zb F i).text,fnV (cntK 4 (F.kids.take i)) v (resT (Zb F i)))]) (allK (F.kids.take i)++[((Zb F i).text,.bool true)]) i w)
 {lo:Nat} (ho:w.ownsRow lo 24 2 v (parT (Zb F i)).length ((parT (Zb F i)).flatMap tyCells)) (hlo:n0≤lo):∃ pv TB,EnT F n0 b fv ms mg mn mf m2 pv TB (i+1) w:=by
 obtain ⟨qv,hqv⟩:∃ qv,qv=fun k=>if k=cntK 4 (F.kids.take i) then v else pv k:=⟨_,rfl⟩;have hq0:∀ k,k<cntK 4 (F.kids.take i)→qv k=pv k:=fun k hk=>by rw [hqv];exact if_neg O
 have hq1:qv (cntK 4 (F.kids.take i))=v:=by rw [hqv];exact if_pos rfl
 have e4:numK 4 (fun k d=>fnV k (qv k) (resT d)) (F.kids.take (i+1)) 0=numK 4 (fun k d=>fnV k (pv k) (resT d)) (F.kids.take i) 0++[((Zb F i).text,fnV (cntK 4 (F.kids.take i)) v (resT (Zb F i)))]:=by
  rw [Jtb _ hi hk,Qeb (f:=fun k d=>fnV k (qv k) (resT d)) (g:=fun k d=>fnV k (pv k) (resT d)) _ 0 fun j d hj=>by show fnV j (qv j) _=fnV j (pv j) _;rw [hq0 j O],hq1]
 refine ⟨qv,TB++v.ownBlock.toList,?_⟩;unfold EnT;rw [Jba _ _ hi (by rw [hk];decide),Jba _ _ hi (by rw [hk];decide),Jba _ _ hi (by rw [hk];decide),e4,Vcb hi];refine ⟨h.B,h.hs,h.hg,h.hn,h.hf,h.hq,fun j hj hk2=>?_,fun j hj=>?_,h.ds⟩;by_cases hji:j=i;subst hji;rw [hq1];exact (Xnf ho).mono fun k hk=>List.mem_append_right _ hk;rw [hq0 _ (Qrf O O hk2)];exact (h.hp j O hk2).mono fun k hk=>List.mem_append_left _ hk;rcases List.mem_append.1 hj with q|q;exact h.tb j q;have:=ho.lt j (Option.mem_toList.1 q);exact ⟨O,this.2⟩
theorem EnT.tab(h:EnT F n0 b fv ms mg mn mf m2 pv TB F.kids.length w):Tab F TB ms mg mn mf pv w:=by
 unfold EnT at h;rw [List.take_length] at h;refine ⟨h.hs,h.hg,h.hn,h.hf,fun s hs=>?_⟩;obtain ⟨j,hj,h1,h2,h3⟩:=Jub 4 s F.kids 0 hs;unfold findD;rw [h2,h3,Afa,← Yz hj];exact h.hp j hj (by rw [Yz hj];exact h1)
end
def GV(V:Nat→Prop)(w w':Aa):Prop:=GB V w w'
section
variable {V:Nat→Prop} {w w' w0:Aa}
theorem GV.refl(V:Nat→Prop)(w:Aa):GV V w w:=GB.refl V w
theorem GV.trans(h:GV V w0 w)(k:GV V w w'):GV V w0 w':=GB.trans h k
theorem GV.size(h:GV V w w'):w.heap.size≤w'.heap.size:=GB.size h
theorem GV.of_g(h:G w w'):GV V w w':=GB.of_g h
theorem Jca{b:Nat}(h:GV V w0 w)(hg:w.grownBy w' (some b))(hb:w0.heap.size≤b):GV V w0 w':=Ywe h hg (.inr hb)
theorem Ued{b:Nat}(h:GV V w0 w)(hg:w.grownBy w' (some b))(hb:V b):GV V w0 w':=Ywe h hg (.inl hb)
end
def EnV(ms mg mn mf k:Nat):Prop:=k=ms∨k=mg∨k=mn∨k=mf
theorem Obk.keepM{w w':Aa}{L:List (Nat×Ba×List Ga)}{m:Nat}{es:List (List UInt8×Ga)}(E:Obk w L)(hM:MapS w m es)(hg:w.grownBy w' (some m)):Obk w' L:=⟨E.1,Yxa E.2 fun b e l _ h=>h.keep hg (Wa (hM.nblk h).symm)⟩
theorem Xof{B:Nat→Prop}{w0 w w':Aa}{row:Option Nat}(h:GV B w0 w)(hg:w.grownBy w' row)(hr:∀ k,row=some k→B k∨w0.heap.size≤k):GV B w0 w' :=
 ⟨hg.os.trans h.os,hg.tape.trans h.tape,hg.output.trans h.output,Nat.le_trans h.size hg.size,fun k hk hn=>(hg.block k (Aca hk h.size) (fun e=>(hr k e.symm).elim hn O)).trans (h.block k hk hn)⟩
theorem LaidW.keepr{n0:Nat}{w w':Aa}{row:Option Nat}(h:LaidW n0 w)(hg:w.grownBy w' row)(hr:∀ k,row=some k→n0≤k):LaidW n0 w' :=
 h.below ⟨hg.os,hg.tape,hg.output,hg.size,fun k hk=>hg.block k (Aca hk h.hn) fun e=>by have:=hr k e.symm;omega⟩
theorem LaidW.grow{n0:Nat}{w w':Aa}(h:LaidW n0 w)(g:G w w'):LaidW n0 w':=h.keepr (row:=none) (g.only _) fun k e=>by cases e
theorem Xpf{n:Nat}{σ:List Ent}{c:Prop}{wb:Aa}{ty m:Nat}{x y:Ea}{F:Nd}{i:Nat}(h:MapS wb m (allK (F.kids.take i)))(hx:Ev n σ c x (.map (some m)))(hy:Ev n σ c y (Str (Zb F i).text)) :
 Rd PP n σ c wb (.lookup 51 x y false) ty (.bool (dupAt F i)):=by
 have k:=Vpc (ty:=ty) Via Vqd Zpd h hx hy;rw [Ufe] at k;exact k
theorem Jvb{F:Nd}{i:Nat}(h:∀ j,j<i→dupAt F j=false)(k:dupAt F i=false):∀ j,j<i+1→dupAt F j=false:=fun j hj=>by
 by_cases e:j=i;rw [e];exact k;exact h j O
theorem Zlb(d:Nd):(parT d).length=(Zb d 0).kids.length:=Ara ..
theorem Jtc{d:Nd}{j:Nat}(h:j<(Zb d 0).kids.length):((parT d).take (j+1)).flatMap tyCells=((parT d).take j).flatMap tyCells++tyCells (ofF (Zb (Zb (Zb d 0) j) 0)).1:=by
 have hl:j<(parT d).length:=by rw [Zlb];exact h
 have e:(parT d)[j]=(ofF (Zb (Zb (Zb d 0) j) 0)).1:=by
  rw [Yz (t:=Zb d 0) h];exact List.getElem_map ..
 rw [Asa hl,List.flatMap_append,e];simp
def EnBad(V:Nat→Prop)(F:Nd)(w:Aa)(ch:List Da)(w':Aa):Prop:=ch=[failE (namA F rs0 F.kids.length).ea (namA F rs0 F.kids.length).ee]∧(namA F rs0 F.kids.length).ee≠0∧GV V w w'
theorem Yxg{V:Nat→Prop}{F:Nd}{w w1 w':Aa}{i:Nat}{ch:List Da}(hi:i<F.kids.length)(h0:∀ j,j<i→dupAt F j=false)(g:GV V w w1)(hz:(!dupAt F i)=false∧ch=[failE (Zb F i).pos 6]∧G w1 w'):EnBad V F w ch w':=by
 obtain ⟨h1,h2,h3⟩:=hz;obtain ⟨e1,e2⟩:=Qqf (S:=rs0) rfl hi h0 (by simpa using h1);exact ⟨by rw [e1,e2];exact h2,by rw [e1];decide,g.trans (GV.of_g h3)⟩
theorem Use{F:Nd}{n0 b:Nat}{fv:Ga}{ms mg mn mf:Nat}{w:Aa}(hv:validB F=true)(hF:count F≤1000000)(hb:n0≤b)(hB0:Blk w b 59 (pcCells F fv ms mg mn mf (.slice none 0 0) (.slice none 0 0) (.slice none 0 0)))
    (hkw : Kd w (fun k => k < n0) F.kids fv) (hL : LaidW n0 w) (s0 : MapS w ms []) (g0 : MapS w mg []) (m0 : MapS w mn []) (f0 : MapS w mf []) (ds : (ms ≠ mg ∧ ms ≠ mn ∧ ms ≠ mf) ∧ (mg ≠ mn ∧ mg ≠ mf) ∧ mn ≠ mf) (hm : n0 ≤ ms ∧ n0 ≤ mg ∧ n0 ≤ mn ∧ n0 ≤ mf) :
    RetP PP 29 #[.pointer (some ⟨b, 0, none⟩)] w (fun r w' => r = .tuple #[] ∧ (∀ j, j < F.kids.length → dupAt F j = false) ∧ (∃ m2 pv TB, EnT F w.heap.size b fv ms mg mn mf m2 pv TB F.kids.length w') ∧ GV (EnV ms mg mn mf) w w') (EnBad (EnV ms mg mn mf) F w) := by
  obtain ⟨p, c, rfl, _⟩ := id hkw
  obtain ⟨h1F, hpF⟩ := Wib hv
  have hd := Yqc h1F hpF
  have hkl := Wn F
  have hk00 := hkw
  have hL0 := hL
  have hms := s0.lt
  have hmg := g0.lt
  have hmn := m0.lt
  have hmf := f0.lt
  have hnw := hL.hn
  have g := GV.refl (EnV ms mg mn mf) w
  refine Vi (m := 106) Tryz.func29 J J [(0, True, _)] (Za J (Zr _)) ?_
  refine AU ?_
  refine Una J ?_
  intro m2 w8 em2 g8 z8 hM8
  have g := g.trans (GV.of_g g8)
  replace E := Qp w8
  have hl2 : w.heap.size ≤ m2 := by rw [em2]; exact Aaa _
  obtain ⟨pv, TB, h⟩ : ∃ pv TB, EnT F w.heap.size b (.slice p F.kids.length c) ms mg mn mf m2 pv TB 0 w8 := ⟨fun _ => .slice none 0 0, [], hB0.grow g8, s0.grow g8, g0.grow g8, m0.grow g8, f0.grow g8, hM8, fun j hj => absurd hj (by omega), fun j hj => (by cases hj), ⟨⟨ds.1.1, ds.1.2.1, ds.1.2.2, by omega⟩, ⟨ds.2.1.1, ds.2.1.2, by omega⟩, ⟨ds.2.2, by omega⟩, by omega⟩⟩
  have hL := hL.grow g8
  have hk0 := hkw.grow g8
  refine AU ?_
  refine Uy (fun (i : Nat) u1 => (i ≤ F.kids.length ∧ (∀ j, j < i → dupAt F j = false) ∧ ∃ pv TB, EnT F w.heap.size b (.slice p F.kids.length c) ms mg mn mf m2 pv TB i u1) ∧ GV (EnV ms mg mn mf) w u1) _ [(0, True, _), (2, True, _), (13, True, _), (14, True, _)] (fun (i : Nat) => [(15, True, .int .i64 i)]) (fun (i : Nat) => F.kids.length - i) (0) ⟨⟨Aia _, fun j hj => absurd hj (by omega), pv, TB, h⟩, g⟩ (Wd _) (Za J (Za J (Za J (Za J (Za J (Zr _)))))) ?_
  rintro i u1 ⟨hI1, gl1⟩ _
  have g := gl1
  obtain ⟨hi, hdu, pv, TB, h⟩ := hI1
  have hL := hL0.below ⟨gl1.os, gl1.tape, gl1.output, gl1.size, fun k hk => gl1.block k (by omega) (by unfold EnV; omega)⟩
  have hk0 := Wp hk00 (fun _ h _ => h) fun k hk hlt => gl1.block k hlt (by unfold EnV; omega)
  refine IF (fun h1 => ?_) fun h1 => ?_
  · replace h1 : i < F.kids.length := by simp only [Wpg] at h1; omega
    obtain ⟨e0, pd, cd, hcellw, hkidw⟩ := Yq hk00 (i := i) h1
    have hDp := Vu hk00 (show 0 < F.kids.length by omega)
    have hcell := Qw hcellw (gl1.block (pb p) (by omega) (by unfold EnV; omega))
    have hkid := Wp hkidw (fun _ h _ => h) fun k hk hlt => gl1.block k hlt (by unfold EnV; omega)
    have hm1 := Jaa h1
    have hcd := Wk h1
    have hkl1 := Wn (Zb F i)
    have hpd := (hd _ hm1).2
    refine AU ?_
    refine Xc J Zs J ?_
    intro b4 w4 N4
    have l4 := We N4 g.size
    have hp4 := h
    have g := g.trans (GV.of_g (N4.g))
    have h := h.grow (N4.g)
    have hL := hL.grow (N4.g)
    have hk0 := hk0.grow (N4.g)
    have hkid := hkid.grow (N4.g)
    have E := (Qp _).new N4
    refine Zfa Yj J J J E.g0 ?_
    intro wS1 hgS1 _ BS
    have C4 := E.g0
    replace E := E.s0 hgS1 BS
    have g := Jca g hgS1 (by omega)
    have h := h.keep hgS1 C4 rfl
    have hL := hL.keepr hgS1 (fun k e => by injection e with e; omega)
    have hk0 := hk0.keep hgS1 (fun k hk _ e => by injection e with e; omega)
    have hkid := hkid.keep hgS1 (fun k hk _ e => by injection e with e; omega)
    refine Ze (kq (Zj ?_))
    refine Qua [3, 3, 0, 0, 3, 3, 0, 1] ?_
    refine AU ?_
    refine Uz J (Xpf h.hq (Zd J) (Zd J)) ?_
    refine AU ?_
    refine Y3 J Ye J J J (Vf _ _ _ _) ((fun ch w' hz => Yxg h1 hdu g hz)) ?_
    rintro v26 w26 ⟨rfl, hq26, g26⟩
    refine ⟨fun _ => g26, ?_⟩
    have g := g.trans (GV.of_g (g26))
    replace E := E.grow g26
    have h := h.grow (g26)
    have hL := hL.grow (g26)
    have hk0 := hk0.grow (g26)
    have hkid := hkid.grow (g26)
    have hdi : dupAt F i = false := by simpa using hq26
    refine AU ?_
    refine Waa J Via Vqd h.hq (Jsc hdi) (Zd J) (Zd J) Xa ?_
    intro wq hMq hgq hzq
    replace E := E.keepM h.hq hgq
    have g := Jca g hgq (by omega)
    have hk0 := hk0.keep hgq (fun k hk _ e => by injection e with e; omega)
    have hkid := hkid.keep hgq (fun k hk _ e => by injection e with e; omega)
    have hL := hL.keepr hgq (fun k e => by injection e with e; omega)
    have h := h.uq hgq hMq
    refine IF (fun h2 => ?_) fun h2 => ?_
    · replace h2 : (Zb F i).kind = 2 := Wrg h2
      refine Xs [3, 3, 3, 0, 3, 0, 2] [true, true, true, true, true, true, true] [0, 1, 3, 7, 0, 16, 63] mix (by kernel_rfl) ?_
      have g := g.trans (GV.of_g (G.drew _))
      replace E := E.dr
      have h := h.grow (G.drew _)
      refine AU ?_
      refine Waa J Via Vqd h.hs (Zkb hdi 2 _) (Zd J) (Zd J) Xa ?_
      intro ws hMs hgs hzs
      replace E := E.keepM h.hs hgs
      have g := Ued g hgs (by unfold EnV; omega)
      have h := h.us hgs hMs
      refine AU ?_
      refine SK [15, 0, 2, 13, 14] ?_
      refine Ze (fun a ha => ?_)
      exact ⟨i + 1, ha, ⟨⟨by omega, Jvb hdu hdi, pv, TB, ent_2 h1 h2 h⟩, g⟩, trivial, by omega⟩
    replace h2 : (Zb F i).kind ≠ 2 := Wsg h2
    refine IF (fun h3 => ?_) fun h3 => ?_
    · replace h3 : (Zb F i).kind = 6 := Wrg h3
      obtain ⟨hl6, ht6, _⟩ := pf6 h3 hpd
      have hkt := Wn (Zb (Zb F i) 0)
      have hct := Wk (t := Zb F i) (i := 0) (by omega)
      refine AU ?_
      refine Xs [3, 3, 3, 0, 3, 0, 3, 3, 3, 0, 0, 2] [true, true, true, true, true, true, true, true, true, true, true, true] [0, 1, 3, 7, 0, 16, 0, 64, 192, 448, 960, 2047] mix (by kernel_rfl) ?_
      have g := g.trans (GV.of_g (G.drew _))
      replace E := E.dr
      have h := h.grow (G.drew _)
      have hL := hL.grow (G.drew _)
      have hkid := hkid.grow (G.drew _)
      refine AU ?_
      refine Uz J (Xle Ydf h.hg (Zd J)) (Waa J Via Jvf h.hn (Zkb hdi 6 _) (Zd J) (Zd J) (Zd J) ?_)
      intro wn hMn hgn hzn
      rw [Wcb] at hMn
      replace E := E.keepM h.hn hgn
      have g := Ued g hgn (by unfold EnV; omega)
      have hkid := hkid.keep hgn (fun k hk _ e => by injection e with e; omega)
      have hL := hL.keepr hgn (fun k e => by injection e with e; omega)
      have h := h.un hgn hMn
      refine AU ?_
      refine Xs [3, 3, 3, 0, 3, 0, 3, 0, 3, 0, 1, 2] [true, true, true, true, true, true, true, true, true, true, true, true] [0, 1, 3, 7, 0, 16, 0, 64, 192, 448, 960, 2047] mix (by kernel_rfl) ?_
      have g := g.trans (GV.of_g (G.drew _))
      replace E := E.dr
      have h := h.grow (G.drew _)
      have hL := hL.grow (G.drew _)
      have hkid := hkid.grow (G.drew _)
      obtain ⟨e1, p1, c1, hc1, hk1⟩ := Yq hkid (i := 0) (by omega)
      refine AU ?_
      refine CP (Vab (Zb (Zb F i) 0) _ _ _ hL.hL hL.hb hL.hT (by omega)) (fun w63 g63 => ?_)
      have g := g.trans (GV.of_g (g63))
      replace E := E.grow g63
      have h := h.grow (g63)
      refine Waa J Via Ydf h.hg (Zkb hdi 6 _) (Zd J) (Zd J) (Zd J) ?_
      intro wt hMt hgt hzt
      replace E := E.keepM h.hg hgt
      have g := Ued g hgt (by unfold EnV; omega)
      have h := h.ug hgt hMt
      refine AU ?_
      refine SK [15, 0, 2, 13, 14] ?_
      refine Ze (fun a ha => ?_)
      exact ⟨i + 1, ha, ⟨⟨by omega, Jvb hdu hdi, pv, TB, ent_6 h1 h3 h⟩, g⟩, trivial, by omega⟩
    replace h3 : (Zb F i).kind ≠ 6 := Wsg h3
    refine IF (fun h4 => ?_) fun h4 => ?_
    · replace h4 : (Zb F i).kind = 4 := Wrg h4
      obtain ⟨hl4, ⟨hk5, hpp⟩, ht1, _⟩ := pf4 h4 hpd
      have hkt := Wn (Zb (Zb F i) 1)
      have hct := Wk (t := Zb F i) (i := 1) (by omega)
      have hkp := Wn (Zb (Zb F i) 0)
      have hcp := Wk (t := Zb F i) (i := 0) (by omega)
      obtain ⟨e1, p1, c1, hc1, hk1⟩ := Yq hkid (i := 1) (by omega)
      obtain ⟨e2, p2, c2, hc2w, hk2w⟩ := Yq hkidw (i := 0) (by omega)
      have hDd := Vu hkidw (show 0 < (Zb F i).kids.length by omega)
      refine AU ?_
      refine Xh (rowR none) [3, 3, 3, 0, 0, 3, 0, 3, 0, 1, 3, 1, 2] [0, 1, 3, 7, 15, 0, 32, 96, 224, 511, 1023, 0, 4095] mix (by kernel_rfl) [0, 1, 2, 3, 4, 5, 6, 7, 8, 9, 10, 11, 12] J ?_
      have g := g.trans (GV.of_g (G.drew _))
      replace E := E.dr
      have h := h.grow (G.drew _)
      have hL := hL.grow (G.drew _)
      have hk0 := hk0.grow (G.drew _)
      have hkid := hkid.grow (G.drew _)
      have hc1 := hc1.grow (G.drew _)
      refine Zx 0 J J (fun _ => Zw (Zd J)) (Zx 1 J J (fun _ => Zna (Zd J)) (Zx 2 J J (fun _ => Zi Qh (Zd J)) (Yi 3 J J (fun w1 hx => Zq Wu (Zd J) (fun _ => (h.B.keep hx (fun h => nomatch h)).at_ J)) (Yi 4 J J (fun w1 hx => Xle Xbe (h.hf.keep hx (fun h => nomatch h)) (Zd J)) (Zx 5 J J (fun _ => Zi Zh (Zd J)) (Yi 6 J J (fun w1 hx => Zq Zg (Zd J) (fun _ => (E.g0.keep hx (fun h => nomatch h)).at_ J)) (Zx 7 J J (fun _ => Yv Zc (Zd J) Xa (fun _ => by omega) (fun _ => e1)) (Yi 8 J J (fun w1 hx => Zo Zf (Zd J) J (fun _ => hc1.kn hx)) (Zpb 9 11 J J ?_ ?_)))))))))
      · refine Zn (L' := [10, 11, 12]) [3, 3, 3, 0, 0, 3, 0, 3, 0, 1, 3, 1, 2] rfl rfl rfl ?_
        refine CP (Vab (Zb (Zb F i) 1) _ _ _ hL.hL hL.hb hL.hT (by omega)) (fun w75 g75 => ?_)
        have g := g.trans (GV.of_g (g75))
        replace E := E.grow g75
        have h := h.grow (g75)
        have hL := hL.grow (g75)
        have hk0 := hk0.grow (g75)
        have hkid := hkid.grow (g75)
        refine Zy ((g75).only _) ?_
        refine Zx 10 J J (fun _ => Uv [_, _, _, _] Uf J Xha (Wi (Zd J) (Wi (Zd J) (Vj))) J) (Zt 11 J J ?_)
        refine Zn (L' := [12]) [3, 3, 3, 0, 0, 3, 0, 3, 0, 1, 3, 1, 2] J J J ?_
        refine Xc J Uf J ?_
        intro b5 w5 N5
        have l5 := We N5 g.size
        have hp5 := h
        have g := g.trans (GV.of_g (N5.g))
        have h := h.grow (N5.g)
        have hL := hL.grow (N5.g)
        have hk0 := hk0.grow (N5.g)
        have hkid := hkid.grow (N5.g)
        replace E := E.new N5
        refine Zy ((N5.g).only _) ?_
        refine Zt 12 J J ?_
        refine Xb (L' := []) [3, 3, 3, 0, 0, 3, 0, 3, 0, 1, 3, 1, 2] J J J J ?_
        refine Zfa Zja J J J E.g0 ?_
        intro wS2 hgS2 _ BS
        have C5 := E.g0
        replace E := E.s0 hgS2 BS
        have g := Jca g hgS2 (by omega)
        have h := h.keep hgS2 C5 rfl
        have hL := hL.keepr hgS2 (fun k e => by injection e with e; omega)
        have hk0 := hk0.keep hgS2 (fun k hk _ e => by injection e with e; omega)
        have hkid := hkid.keep hgS2 (fun k hk _ e => by injection e with e; omega)
        refine Xx ?_
        refine Wra [(0, _, _), (2, _, _), (4, _, _), (5, _, _), (13, _, _), (14, _, _), (15, _, _)] (Za J (Za J (Za J (Za J (Za J (Za J (Za J (Zr _)))))))) (Jg (kq (Zj (Zj (Zl (?_))))))
        have hc2 := Qw hc2w (g.block (pb pd) (by omega) (by unfold EnV; omega))
        have hlo : ∀ j ∈ TB, j < b5 := fun j hj => by have := (hp5.tb j hj).2; have := N5.at_; omega
        refine Xg Zh J (Xl Zg J (E.g1.at_ J) (Zma Zc J J (by omega) e2 (Xg Zh J (Xl Zg J (hc2.one (i := 4) J) (Yha Zc J (Zv J (Ze (kq (Yx (?_))))))))))
        have hnd2 := E.1
        refine Uy (fun (j : Nat) u2 => (j ≤ (Zb (Zb F i) 0).kids.length ∧ TabE F w.heap.size b (.slice p F.kids.length c) ms mg mn mf m2 pv TB (numK 2 (fun _ _ => .bool true) (F.kids.take i) 0) (numK 6 (fun _ d => tyV (ofF (Zb d 0)).1) (F.kids.take i) 0) (numK 6 (fun k _ => .int .i64 k) (F.kids.take i) 0) (numK 4 (fun k d => fnV k (pv k) (resT d)) (F.kids.take i) 0) (allK (F.kids.take i) ++ [((Zb F i).text, .bool true)]) i u2 ∧ ∃ v, Blk u2 b5 61 [.int .i64 (cntK 4 (F.kids.take i)), v, .int .i64 (resT (Zb F i)).kind, Str (resT (Zb F i)).name] ∧ u2.ownsRow b5 24 2 v j (((parT (Zb F i)).take j).flatMap tyCells)) ∧ GV (EnV ms mg mn mf) w u2) _ [(0, True, _), (2, True, _), (4, True, _), (5, True, _), (13, True, _), (14, True, _), (15, True, _), (81, True, _), (82, True, _)] (fun (j : Nat) => [(83, True, .int .i64 j)]) (fun (j : Nat) => (Zb (Zb F i) 0).kids.length - j) (0) ⟨⟨Aia _, h, _, (by have q := E.g0; rw [Wcb] at q; exact q), Je _ _ _ _⟩, g⟩ (Yb (blkE E.g1) (Wd _)) (Za J (Za J (Za J (Za J (Za J (Za J (Za J (Za J (Za J (Za J (Zr _))))))))))) ?_
        clear E
        rintro j u2 ⟨hI2, gl2⟩ ⟨B4, _⟩
        replace B4 : Blk _ _ _ _ := B4
        have g := gl2
        obtain ⟨hj, h, v, B5, ho⟩ := hI2
        obtain ⟨va, vc, rfl, _⟩ := Zpa ho
        have hL := hL0.below ⟨gl2.os, gl2.tape, gl2.output, gl2.size, fun k hk => gl2.block k (by omega) (by unfold EnV; omega)⟩
        have hk0 := Wp hk00 (fun _ h _ => h) fun k hk hlt => gl2.block k hlt (by unfold EnV; omega)
        have hkid := Wp hkidw (fun _ h _ => h) fun k hk hlt => gl2.block k hlt (by unfold EnV; omega)
        have hk2 := Wp hk2w (fun _ h _ => h) fun k hk hlt => gl2.block k hlt (by unfold EnV; omega)
        have hlt5 := B5.lt
        have E := Vma (L := [(b5, _, _), (b4, _, _)]) hnd2 ⟨B5, B4, trivial⟩ rfl
        refine IF (fun h5 => ?_) fun h5 => ?_
        · replace h5 : j < (Zb (Zb F i) 0).kids.length := by simp only [Wpg] at h5; omega
          obtain ⟨ef, pf, cf, hcf, hkf⟩ := Yq hk2 (i := j) h5
          have hmf := Jaa h5
          have hf3 := Yea (.inr hk5) hpp _ hmf
          have hfl := (pf3 hf3.1 hf3.2).1
          have hcF := Wk h5
          have hcG := Wk (t := Zb (Zb (Zb F i) 0) j) (i := 0) (by omega)
          have hkG := Wn (Zb (Zb (Zb (Zb F i) 0) j) 0)
          refine AU ?_
          refine Xc J Zs J ?_
          intro b7 w7 N7
          have l7 := We N7 g.size
          have hp7 := h
          have g := g.trans (GV.of_g (N7.g))
          have h := h.grow (N7.g)
          have hL := hL.grow (N7.g)
          have hkf := hkf.grow (N7.g)
          have ho := Xw ho (N7.g)
          replace E := E.new N7
          refine Zfa Yj J J J E.g0 ?_
          intro wS3 hgS3 _ BS
          have C7 := E.g0
          replace E := E.s0 hgS3 BS
          have g := Jca g hgS3 (by omega)
          have h := h.keep hgS3 C7 rfl
          have hL := hL.keepr hgS3 (fun k e => by injection e with e; omega)
          have hkf := hkf.keep hgS3 (fun k hk _ e => by injection e with e; omega)
          have ho := Ym ho hgS3 (.inr (Wb ho C7 rfl))
          refine AU ?_
          refine Xs [3, 0, 3, 0, 3, 0, 1, 1, 2, 3, 2] [true, true, true, true, true, true, true, true, true, true, true] [0, 1, 0, 4, 12, 28, 60, 124, 255, 511, 1023] mix (by kernel_rfl) ?_
          have g := g.trans (GV.of_g (G.drew _))
          replace E := E.dr
          have h := h.grow (G.drew _)
          have hL := hL.grow (G.drew _)
          have hkf := hkf.grow (G.drew _)
          have ho := Xw ho (G.drew _)
          obtain ⟨eg, pg, cg, hcg, hkg⟩ := Yq hkf (i := 0) (by omega)
          refine AU ?_
          refine CP (Vab (Zb (Zb (Zb (Zb F i) 0) j) 0) _ _ _ hL.hL hL.hb hL.hT (by omega)) (fun w93 g93 => ?_)
          have g := g.trans (GV.of_g (g93))
          replace E := E.grow g93
          have h := h.grow (g93)
          have ho := Xw ho (g93)
          refine Yc _ J Wf Xk (pqc J pq0) J J ?_
          intro b94 w94 N94
          have l94 := We N94 g.size
          have hp94 := h
          have B94 := N94.blk
          have g := g.trans (GV.of_g (N94.g))
          replace E := E.grow N94.g
          have h := h.grow (N94.g)
          have ho := Xw ho (N94.g)
          refine Um J Wf Xk J (by decide) (Zd J) ho (Zd J) J N94.blk.row J (by simp only [maxLen]; omega) (by omega) (by have := E.g1.lt; omega) ?_
          intro a95 c95 w95 ho95 hg95 hat95
          replace E := E.keepN ho hg95 rfl
          have g := Xof g hg95 (fun k e => .inr (by have := (ho.lt k e).1; omega))
          have h := h.keepO ho hg95 hlo
          replace ho := ho95
          refine AU ?_
          refine Xdb Uw J J J E.g1 ?_
          intro wS4 hgS4 _ BS
          have C5 := E.g1
          replace E := E.s1 hgS4 BS
          have g := Jca g hgS4 (by omega)
          have h := h.keep hgS4 C5 rfl
          have ho := Ym ho hgS4 (.inr (Wb ho C5 rfl))
          refine AU ?_
          refine SK [83, 0, 2, 4, 5, 13, 14, 15, 81, 82] ?_
          refine Ze (fun a ha => ?_)
          exact ⟨j + 1, ha, ⟨⟨by omega, h, _, E.g1, by rw [Jtc h5]; exact ho⟩, g⟩, ⟨E.g2, trivial⟩, by omega⟩
        replace h5 : j = (Zb (Zb F i) 0).kids.length := by simp only [Wqg] at h5; omega
        subst h5
        refine AU ?_
        refine Xs [3, 3, 3, 0, 3, 0, 0, 2] [true, true, true, true, true, true, true, true] [0, 1, 3, 7, 0, 16, 0, 127] mix (by kernel_rfl) ?_
        have g := g.trans (GV.of_g (G.drew _))
        replace E := E.dr
        have h := h.grow (G.drew _)
        have ho := Xw ho (G.drew _)
        refine AU ?_
        refine Waa J Via Xbe h.hf (Zkb hdi 4 _) (Zd J) (Zd J) (Zd J) ?_
        intro wf hMf hgf hzf
        have ho := Ym ho hgf (.inr (fun e => by have := (ho.lt _ e).1; omega))
        replace E := E.keepM h.hf hgf
        have g := Ued g hgf (by unfold EnV; omega)
        have h := h.uf hgf hMf
        refine AU ?_
        refine SK [15, 0, 2, 13, 14] ?_
        refine Ze (fun a ha => ?_)
        exact ⟨i + 1, ha, ⟨⟨by omega, Jvb hdu hdi, Jzf h1 h4 h (lo := b5) (by have q := ho; rw [Aoa (by rw [Zlb]; exact Aaa _)] at q; rw [Zlb]; exact q) (by omega)⟩, g⟩, trivial, by omega⟩
      · refine Zn (L' := [9, 10, 12]) [3, 3, 3, 0, 0, 3, 0, 3, 0, 1, 3, 1, 2] rfl rfl rfl ?_
        refine Xc J Uf J ?_
        intro b5 w5 N5
        have l5 := We N5 g.size
        have hp5 := h
        have g := g.trans (GV.of_g (N5.g))
        have h := h.grow (N5.g)
        have hL := hL.grow (N5.g)
        have hk0 := hk0.grow (N5.g)
        have hkid := hkid.grow (N5.g)
        replace E := E.new N5
        refine Zy ((N5.g).only _) ?_
        refine Zt 9 J J ?_
        refine Zn (L' := [10, 12]) [3, 3, 3, 0, 0, 3, 0, 3, 0, 1, 3, 1, 2] J J J ?_
        refine CP (Vab (Zb (Zb F i) 1) _ _ _ hL.hL hL.hb hL.hT (by omega)) (fun w75 g75 => ?_)
        have g := g.trans (GV.of_g (g75))
        replace E := E.grow g75
        have h := h.grow (g75)
        have hL := hL.grow (g75)
        have hk0 := hk0.grow (g75)
        have hkid := hkid.grow (g75)
        refine Zy ((g75).only _) ?_
        refine Zx 10 J J (fun _ => Uv [_, _, _, _] Uf J Xha (Wi (Zd J) (Wi (Zd J) (Vj))) J) (Zt 12 J J ?_)
        refine Xb (L' := []) [3, 3, 3, 0, 0, 3, 0, 3, 0, 1, 3, 1, 2] J J J J ?_
        refine Zfa Zja J J J E.g0 ?_
        intro wS2 hgS2 _ BS
        have C5 := E.g0
        replace E := E.s0 hgS2 BS
        have g := Jca g hgS2 (by omega)
        have h := h.keep hgS2 C5 rfl
        have hL := hL.keepr hgS2 (fun k e => by injection e with e; omega)
        have hk0 := hk0.keep hgS2 (fun k hk _ e => by injection e with e; omega)
        have hkid := hkid.keep hgS2 (fun k hk _ e => by injection e with e; omega)
        refine Xx ?_
        refine Wra [(0, _, _), (2, _, _), (4, _, _), (5, _, _), (13, _, _), (14, _, _), (15, _, _)] (Za J (Za J (Za J (Za J (Za J (Za J (Za J (Zr _)))))))) (Jg (kq (Zj (Zj (Zl (?_))))))
        have hc2 := Qw hc2w (g.block (pb pd) (by omega) (by unfold EnV; omega))
        have hlo : ∀ j ∈ TB, j < b5 := fun j hj => by have := (hp5.tb j hj).2; have := N5.at_; omega
        refine Xg Zh J (Xl Zg J (E.g1.at_ J) (Zma Zc J J (by omega) e2 (Xg Zh J (Xl Zg J (hc2.one (i := 4) J) (Yha Zc J (Zv J (Ze (kq (Yx (?_))))))))))
        have hnd2 := E.1
        refine Uy (fun (j : Nat) u2 => (j ≤ (Zb (Zb F i) 0).kids.length ∧ TabE F w.heap.size b (.slice p F.kids.length c) ms mg mn mf m2 pv TB (numK 2 (fun _ _ => .bool true) (F.kids.take i) 0) (numK 6 (fun _ d => tyV (ofF (Zb d 0)).1) (F.kids.take i) 0) (numK 6 (fun k _ => .int .i64 k) (F.kids.take i) 0) (numK 4 (fun k d => fnV k (pv k) (resT d)) (F.kids.take i) 0) (allK (F.kids.take i) ++ [((Zb F i).text, .bool true)]) i u2 ∧ ∃ v, Blk u2 b5 61 [.int .i64 (cntK 4 (F.kids.take i)), v, .int .i64 (resT (Zb F i)).kind, Str (resT (Zb F i)).name] ∧ u2.ownsRow b5 24 2 v j (((parT (Zb F i)).take j).flatMap tyCells)) ∧ GV (EnV ms mg mn mf) w u2) _ [(0, True, _), (2, True, _), (4, True, _), (5, True, _), (13, True, _), (14, True, _), (15, True, _), (81, True, _), (82, True, _)] (fun (j : Nat) => [(83, True, .int .i64 j)]) (fun (j : Nat) => (Zb (Zb F i) 0).kids.length - j) (0) ⟨⟨Aia _, h, _, (by have q := E.g0; rw [Wcb] at q; exact q), Je _ _ _ _⟩, g⟩ (Yb (blkE E.g1) (Wd _)) (Za J (Za J (Za J (Za J (Za J (Za J (Za J (Za J (Za J (Za J (Zr _))))))))))) ?_
        clear E
        rintro j u2 ⟨hI2, gl2⟩ ⟨B4, _⟩
        replace B4 : Blk _ _ _ _ := B4
        have g := gl2
        obtain ⟨hj, h, v, B5, ho⟩ := hI2
        obtain ⟨va, vc, rfl, _⟩ := Zpa ho
        have hL := hL0.below ⟨gl2.os, gl2.tape, gl2.output, gl2.size, fun k hk => gl2.block k (by omega) (by unfold EnV; omega)⟩
        have hk0 := Wp hk00 (fun _ h _ => h) fun k hk hlt => gl2.block k hlt (by unfold EnV; omega)
        have hkid := Wp hkidw (fun _ h _ => h) fun k hk hlt => gl2.block k hlt (by unfold EnV; omega)
        have hk2 := Wp hk2w (fun _ h _ => h) fun k hk hlt => gl2.block k hlt (by unfold EnV; omega)
        have hlt5 := B5.lt
        have E := Vma (L := [(b5, _, _), (b4, _, _)]) hnd2 ⟨B5, B4, trivial⟩ rfl
        refine IF (fun h5 => ?_) fun h5 => ?_
        · replace h5 : j < (Zb (Zb F i) 0).kids.length := by simp only [Wpg] at h5; omega
          obtain ⟨ef, pf, cf, hcf, hkf⟩ := Yq hk2 (i := j) h5
          have hmf := Jaa h5
          have hf3 := Yea (.inr hk5) hpp _ hmf
          have hfl := (pf3 hf3.1 hf3.2).1
          have hcF := Wk h5
          have hcG := Wk (t := Zb (Zb (Zb F i) 0) j) (i := 0) (by omega)
          have hkG := Wn (Zb (Zb (Zb (Zb F i) 0) j) 0)
          refine AU ?_
          refine Xc J Zs J ?_
          intro b7 w7 N7
          have l7 := We N7 g.size
          have hp7 := h
          have g := g.trans (GV.of_g (N7.g))
          have h := h.grow (N7.g)
          have hL := hL.grow (N7.g)
          have hkf := hkf.grow (N7.g)
          have ho := Xw ho (N7.g)
          replace E := E.new N7
          refine Zfa Yj J J J E.g0 ?_
          intro wS3 hgS3 _ BS
          have C7 := E.g0
          replace E := E.s0 hgS3 BS
          have g := Jca g hgS3 (by omega)
          have h := h.keep hgS3 C7 rfl
          have hL := hL.keepr hgS3 (fun k e => by injection e with e; omega)
          have hkf := hkf.keep hgS3 (fun k hk _ e => by injection e with e; omega)
          have ho := Ym ho hgS3 (.inr (Wb ho C7 rfl))
          refine AU ?_
          refine Xs [3, 0, 3, 0, 3, 0, 1, 1, 2, 3, 2] [true, true, true, true, true, true, true, true, true, true, true] [0, 1, 0, 4, 12, 28, 60, 124, 255, 511, 1023] mix (by kernel_rfl) ?_
          have g := g.trans (GV.of_g (G.drew _))
          replace E := E.dr
          have h := h.grow (G.drew _)
          have hL := hL.grow (G.drew _)
          have hkf := hkf.grow (G.drew _)
          have ho := Xw ho (G.drew _)
          obtain ⟨eg, pg, cg, hcg, hkg⟩ := Yq hkf (i := 0) (by omega)
          refine AU ?_
          refine CP (Vab (Zb (Zb (Zb (Zb F i) 0) j) 0) _ _ _ hL.hL hL.hb hL.hT (by omega)) (fun w93 g93 => ?_)
          have g := g.trans (GV.of_g (g93))
          replace E := E.grow g93
          have h := h.grow (g93)
          have ho := Xw ho (g93)
          refine Yc _ J Wf Xk (pqc J pq0) J J ?_
          intro b94 w94 N94
          have l94 := We N94 g.size
          have hp94 := h
          have B94 := N94.blk
          have g := g.trans (GV.of_g (N94.g))
          replace E := E.grow N94.g
          have h := h.grow (N94.g)
          have ho := Xw ho (N94.g)
          refine Um J Wf Xk J (by decide) (Zd J) ho (Zd J) J N94.blk.row J (by simp only [maxLen]; omega) (by omega) (by have := E.g1.lt; omega) ?_
          intro a95 c95 w95 ho95 hg95 hat95
          replace E := E.keepN ho hg95 rfl
          have g := Xof g hg95 (fun k e => .inr (by have := (ho.lt k e).1; omega))
          have h := h.keepO ho hg95 hlo
          replace ho := ho95
          refine AU ?_
          refine Xdb Uw J J J E.g1 ?_
          intro wS4 hgS4 _ BS
          have C5 := E.g1
          replace E := E.s1 hgS4 BS
          have g := Jca g hgS4 (by omega)
          have h := h.keep hgS4 C5 rfl
          have ho := Ym ho hgS4 (.inr (Wb ho C5 rfl))
          refine AU ?_
          refine SK [83, 0, 2, 4, 5, 13, 14, 15, 81, 82] ?_
          refine Ze (fun a ha => ?_)
          exact ⟨j + 1, ha, ⟨⟨by omega, h, _, E.g1, by rw [Jtc h5]; exact ho⟩, g⟩, ⟨E.g2, trivial⟩, by omega⟩
        replace h5 : j = (Zb (Zb F i) 0).kids.length := by simp only [Wqg] at h5; omega
        subst h5
        refine AU ?_
        refine Xs [3, 3, 3, 0, 3, 0, 0, 2] [true, true, true, true, true, true, true, true] [0, 1, 3, 7, 0, 16, 0, 127] mix (by kernel_rfl) ?_
        have g := g.trans (GV.of_g (G.drew _))
        replace E := E.dr
        have h := h.grow (G.drew _)
        have ho := Xw ho (G.drew _)
        refine AU ?_
        refine Waa J Via Xbe h.hf (Zkb hdi 4 _) (Zd J) (Zd J) (Zd J) ?_
        intro wf hMf hgf hzf
        have ho := Ym ho hgf (.inr (fun e => by have := (ho.lt _ e).1; omega))
        replace E := E.keepM h.hf hgf
        have g := Ued g hgf (by unfold EnV; omega)
        have h := h.uf hgf hMf
        refine AU ?_
        refine SK [15, 0, 2, 13, 14] ?_
        refine Ze (fun a ha => ?_)
        exact ⟨i + 1, ha, ⟨⟨by omega, Jvb hdu hdi, Jzf h1 h4 h (lo := b5) (by have q := ho; rw [Aoa (by rw [Zlb]; exact Aaa _)] at q; rw [Zlb]; exact q) (by omega)⟩, g⟩, trivial, by omega⟩
    replace h4 : (Zb F i).kind ≠ 4 := Wsg h4
    refine AU ?_
    refine SK [15, 0, 2, 13, 14] ?_
    refine Ze (fun a ha => ?_)
    exact absurd (hd _ hm1).1 (by rintro (q | q | q) <;> contradiction)
  replace h1 : i = F.kids.length := by simp only [Wqg] at h1; omega
  subst h1
  refine Xea J (Yfa J ?_)
  exact ⟨rfl, hdu, ⟨m2, pv, TB, h⟩, g⟩
structure PB (F:Nd) (n0 b:Nat) (TB X:List Nat) (fv:Ga) (ms mg mn mf:Nat) (pv:Nat→Ga) (sv cv rv:Ga) (w:Aa):Prop where
  B:Blk w b 59 (pcCells F fv ms mg mn mf sv cv rv)
  hb:n0≤b
  kF:Kd w (fun k=>k<n0) F.kids fv
  hF:count F≤1000000
  T:Tab F TB ms mg mn mf pv w
  L:LaidW n0 w
  tx:∀ j∈TB,j∈X
  xl:∀ j∈X,j<w.heap.size
  bx:b∉X
def PX(F:Nd)(n0 b:Nat)(TB X:List Nat)(w:Aa):Prop:=∃ fv ms mg mn mf pv sv cv rv,PB F n0 b TB X fv ms mg mn mf pv sv cv rv w
section
variable {F:Nd} {n0 b:Nat} {TB X:List Nat} {r0:Option (List Ty)} {S:CSt} {fv:Ga} {ms mg mn mf:Nat} {pv:Nat→Ga} {sv cv rv sv' cv' rv':Ga} {w w' w1 w2:Aa}
theorem PB.gt(h:PB F n0 b TB X fv ms mg mn mf pv sv cv rv w)(g:GT (mutC X) n0 w w')(hB':Blk w' b 59 (pcCells F fv ms mg mn mf sv' cv' rv')):PB F n0 b TB X fv ms mg mn mf pv sv' cv' rv' w':=by
 have hB:Below n0 w w':=⟨g.os,g.tape,g.output,g.size,fun k hk=>g.block k (Aca hk h.L.hn) (.inl hk)⟩
 have m:∀ {k es},MapS w k es→MapS w' k es:=fun hm=>hm.same (g.block _ hm.lt (.inr fun ⟨cs,e,fr,h1,_⟩=>by
  obtain ⟨ms,c,hb,_⟩:=hm;rw [hb] at h1;injection h1 with h1;cases h1))
 refine ⟨hB',h.hb,Wp h.kF (fun _ h _=>h) (fun k hk _=>hB.block k hk),h.hF,⟨m h.T.hs,m h.T.hg,m h.T.hn,m h.T.hf,fun s hs=>(h.T.hp s hs).same fun k hk hlt _=>g.block k hlt (.inr fun ⟨cs,e,fr,h1,h2⟩=>?_)⟩,h.L.below hB,h.tx,fun j hj=>Aca (h.xl j hj) g.size,h.bx⟩;unfold mutC at h2;rw [Wng (h.tx k hk)] at h2;simp at h2
theorem PB.grow(h:PB F n0 b TB X fv ms mg mn mf pv sv cv rv w)(g:G w w'):PB F n0 b TB X fv ms mg mn mf pv sv cv rv w':=h.gt (GT.of_g g) (h.B.grow g)
theorem PB.keep(h:PB F n0 b TB X fv ms mg mn mf pv sv cv rv w){j:Nat}{e:Ba}{l:List Ga}(hg:w.grownBy w' (some j))(hB:Blk w j e l)(hj:n0≤j)(he:typC e=false∨(j∈X∧j∉TB)):PB F n0 b TB X fv ms mg mn mf pv sv cv rv w':=by
 have hne:j≠b:=fun q=>by
  subst q;rcases he with he|he;have:=h.B;unfold Blk at hB this;rw [this] at hB;injection hB with hB;injection hB with _ hB;subst hB;exact Ata (show true=false from he);exact h.bx he.1
 have hk:∀ k,k<w.heap.size→k≠j→w'.heap[k]? = w.heap[k]?:=fun k hk hn=>hg.block k hk fun e=>hn (by injection e);have m:∀ {k es},MapS w k es→MapS w' k es:=fun hm=>hm.keep hg fun q=>hm.nblk hB (by injection q);have hL:Below n0 w w':=⟨hg.os,hg.tape,hg.output,hg.size,fun k hk=>hg.block k (Aca hk h.L.hn) fun e=>by injection e with e;omega⟩;refine ⟨h.B.keep hg fun e=>hne (by injection e with e;exact e.symm),h.hb,h.kF.keep hg fun k hk _ e=>by injection e with e;omega,h.hF,⟨m h.T.hs,m h.T.hg,m h.T.hn,m h.T.hf,fun s hs=>(h.T.hp s hs).same fun k hkT hlt ⟨cs,fr,hc⟩=>hg.block k hlt fun e=>?_⟩,h.L.below hL,h.tx,fun i hi=>Aca (h.xl i hi) hg.size,h.bx⟩;injection e with e;subst e;rcases he with he|he;unfold Blk at hB;rw [hc] at hB;injection hB with hB;injection hB with _ hB;subst hB;exact Ata (show true=false from he);exact he.2 hkT
theorem PB.px(h:PB F n0 b TB X fv ms mg mn mf pv sv cv rv w):PX F n0 b TB X w:=⟨_,_,_,_,_,_,_,_,_,h⟩
theorem PX.grow(h:PX F n0 b TB X w)(g:G w w'):PX F n0 b TB X w':=by obtain ⟨_,_,_,_,_,_,_,_,_,h⟩:=h;exact (h.grow g).px
theorem PX.keep(h:PX F n0 b TB X w){j:Nat}{e:Ba}{l:List Ga}(hg:w.grownBy w' (some j))(hB:Blk w j e l)(hj:n0≤j)(he:typC e=false∨(j∈X∧j∉TB)):PX F n0 b TB X w':=by obtain ⟨_,_,_,_,_,_,_,_,_,h⟩:=h;exact (h.keep hg hB hj he).px
theorem PX.laid(h:PX F n0 b TB X w):LaidW n0 w:=by obtain ⟨_,_,_,_,_,_,_,_,_,h⟩:=h;exact h.L
theorem PX.lt(h:PX F n0 b TB X w):n0≤b∧b<w.heap.size:=by obtain ⟨_,_,_,_,_,_,_,_,_,h⟩:=h;exact ⟨h.hb,h.B.lt⟩
theorem PX.tb(h:PX F n0 b TB X w):(∀ j∈TB,j∈X)∧∀ j∈X,j<w.heap.size:=by obtain ⟨_,_,_,_,_,_,_,_,_,h⟩:=h;exact ⟨h.tx,h.xl⟩
theorem PX.nx(h:PX F n0 b TB X w):b∉X:=by obtain ⟨_,_,_,_,_,_,_,_,_,h⟩:=h;exact h.bx
theorem PX.sub(h:PX F n0 b TB X w){Y:List Nat}(hT:∀ j∈TB,j∈Y)(hY:∀ j∈Y,j∈X):PX F n0 b TB Y w:=by
 obtain ⟨_,_,_,_,_,_,_,_,_,h⟩:=h;exact ⟨_,_,_,_,_,_,_,_,_,h.B,h.hb,h.kF,h.hF,h.T,h.L,hT,fun j hj=>h.xl j (hY j hj),fun hm=>h.bx (hY _ hm)⟩
theorem PC.px(h:PC F n0 b TB X r0 S w):PX F n0 b TB X w:=by
 obtain ⟨fv,ms,mg,mn,mf,pv,sv,cv,rv,vs,sc,h⟩:=h;exact ⟨_,_,_,_,_,_,_,_,_,h.B,h.hb,h.kF,h.hF,h.T,h.L,h.tx,h.xl,h.bx⟩
theorem PB.addX(h:PB F n0 b TB X fv ms mg mn mf pv sv cv rv w){j:Nat}{e:Ba}{l:List Ga}(N:New w w' j e l):PB F n0 b TB (j::X) fv ms mg mn mf pv sv cv rv w':=by
 have k:=h.grow N.g
 exact ⟨k.B,k.hb,k.kF,k.hF,k.T,k.L,fun i hi=>Aha _ (k.tx i hi),fun i hi=>by
  rcases Ada.1 hi with q|q;subst q;exact N.blk.lt;exact k.xl i q,fun hm=>by
  rcases Ada.1 hm with q|q;have:=h.B.lt;have:=N.at_;omega;exact h.bx q⟩
end
def BadD(n0:Nat)(X:List Nat)(T:CSt)(w:Aa)(ch:List Da)(w':Aa):Prop:=ch=[failE T.ea T.ee]∧T.ee≠0∧GT (mutC X) n0 w w'
theorem Juc{n0:Nat}{X:List Nat}{S T:CSt}{q:Bool}{a e:Int}{ch:List Da}{w0 w1 w:Aa}(he:S.ee=0)(hn:e≠0)(hE:Er (failU q a e S) T)(hz:q=false∧ch=[failE a e]∧G w w1)(g:GT (mutC X) n0 w0 w):BadD n0 X T w0 ch w1:=by
 obtain ⟨rfl,rfl,g1⟩:=hz;rw [Wda he] at hE;obtain ⟨h2,h1⟩:=hE hn;exact ⟨by rw [h1,h2],by rw [h2];exact hn,g.trans (GT.of_g g1)⟩
theorem Bad.d{n0 b L:Nat}{X X':List Nat}{T U:CSt}{ch:List Da}{w w0 w':Aa}(h:Bad n0 b X' L T w ch w')(hE:Er T U)(g:GT (mutC X) n0 w0 w)(hX:∀ j∈X,j∈X':=by intro j hj;simp [hj]):BadD n0 X U w0 ch w':=by
 obtain ⟨h1,h2,_,h5⟩:=h;obtain ⟨e1,e2⟩:=hE h2;exact ⟨by rw [h1,e1,e2],by rw [e1];exact h2,gtw g h5 hX⟩
theorem Jwb{F:Nd}{n0 b:Nat}{TB X:List Nat}{w:Aa}(t:Nd)(p:Option Addr)(c:Nat)(h:PX F n0 b TB X w):RetP PP 52 #[.pointer (some ⟨b,0,none⟩),ndV t (.slice p t.kids.length c)] w (fun r w'=>r = .tuple #[]∧(!decide (t.kind=8) || !decide ((findD F 2 t.text).2<0))=true∧G w w') (fun ch w'=>(!decide (t.kind=8) || !decide ((findD F 2 t.text).2<0))=false∧ch=[failE t.pos 5]∧G w w'):=by
 obtain ⟨fv,ms,mg,mn,mf,pv,sv,cv,rv,h⟩:=h;have g:=G.refl w;refine Vi (m:=19) Tryz.func52 J J [(0,True,_),(1,True,_)] (Za J (Za J (Zr _))) ?_;refine BM fun _ _ _ _ g E=>?_;refine AU ?_;refine Xh (rowR none) [3,0,3,3,3,3,3,0,3,0,0,3,3,0,1] [0,1,3,7,15,31,63,127,15,271,1023,2047,0,4096,16383] mix KR [0,1,2,3,4,5,6,7,8,9,10,11,12,13,14] J ?_;have g:=gdr g;replace E:=E.dr;refine Zx 0 J J (fun _=>Zi Xi (Zd J)) (Yi 1 J J (fun w1 hx=>Zq Yf (Zd J) (fun _=>(E.g0.keep hx (fun h=>nomatch h)).at_ J)) (Zx 2 J J (fun _=>Yka (Zd J) Xa) (Zx 3 J J (fun _=>Zw (Zd J)) (Yga (L':=[5,6,7,8,9,10,11,12,13,14]) 4 J J J J J (fun _=>Zw (Zd J)) (Yga (L':=[6,7,8,9,10,11,12,13,14]) 5 J J J J J (fun _=>Zna (Zp J id)) (Yga (L':=[7,8,9,10,11,12,13,14]) 6 J J J J J (fun _=>Zi Js (Zp J id)) (Wsa (L':=[8,9,10,11,12,13,14]) 7 J J J J J (fun w1 hx=>Zq Qy (Zp J id) (fun _=>((h.B.grow g).keep hx (fun h=>nomatch h)).at_ J)) (Yga (L':=[9,10,11,12,13,14]) 8 J J J J J (fun _=>Zi Xe (Zd J)) (Wsa (L':=[10,11,12,13,14]) 9 J J J J J (fun w1 hx=>Zq Yy (Zp J id) (fun _=>(E.g0.keep hx (fun h=>nomatch h)).at_ J)) (Wsa (L':=[11,12,13,14]) 10 J J J J J (fun w1 hx=>Yjc ((h.T.hs.grow g).keep hx (fun h=>nomatch h)) (Zp J id) (Zp J id)) (Zx 11 J J (fun _=>Xd (Zd J) (Zp J id)) (Zx 12 J J (fun _=>Zi Xz (Zd J)) (Yi 13 J J (fun w1 hx=>Zq Yf (Zd J) (fun _=>(E.g0.keep hx (fun h=>nomatch h)).at_ J)) (Zt 14 J J ?_))))))))))))));refine Zn (L':=[]) [3,0,3,3,3,3,3,0,3,0,0,3,3,0,1] J J J ?_;refine Y3 J Ye J J J (Vf _ _ _ _) ((fun ch w' hz=>⟨hz.1,hz.2.1,g.trans hz.2.2⟩)) ?_;rintro v18 w18 ⟨rfl,hq,g18⟩;refine ⟨fun _=>g18,?_⟩
 have g:=g.trans g18;replace E:=E.grow g18;refine Zy ((g18).only _) ?_;refine TK [] ?_;refine Jg (Yfa J ?_);exact ⟨rfl,hq,g⟩
theorem Ute{F:Nd}{n0 b:Nat}{TB X:List Nat}{S:CSt}{fv:Ga}{ms mg mn mf:Nat}{pv:Nat→Ga}{cv:Ga}{w:Aa}(h:PB F n0 b TB X fv ms mg mn mf pv (.slice none 0 0) cv (.slice none 0 0) w)(co:w.ownsRow n0 3 1 cv 1 [.int .i64 0])(cx:∀ k,cv.ownBlock=some k→k∉X) :
 Ret PP 54 #[.pointer (some ⟨b,0,none⟩)] w fun r w'=>r = .tuple #[]∧PC F n0 b TB X none (funS0 S) w'∧GT (mutC X) n0 w w':=by
 have hnn:=h.L.hn;have so:w.ownsRow n0 82 1 (.slice none 0 0) 0 []:=Je _ _ _ _;have g:=GT.refl (mutC X) n0 w;refine WK 11 [0] Tryz.func54 ?_;refine Zl (Zv J (Zv J (Vy J (Xg Xf J (Xl Yo J (h.B.at_ J) (CM fun _ w7 N7 _ g E=>?_))))));have h:=h.grow (N7.g);have so:=Xw so (N7.g);have co:=Xw co (N7.g);refine Um J Yt Zua J Od (Zd J) so (Zd J) J N7.blk.row J Od Od (by have:=g.size;omega) ?_;intro a8 c8 w8 ho8 hg8 hat8;have B8:Blk w8 b 59 _:=h.B.keep hg8 (fun e=>Wb so h.B rfl e.symm);replace E:=Qp w8;refine AU ?_;refine Xr J Vk (Zd J) (Zd J) J B8 J J ?_;intro w11 hg11 hz11 B11;have g8:GT (mutC X) n0 w7 w8:=Job so rfl (fun k hk=>by cases hk) hg8;have g11:GT (mutC X) n0 w8 w11:=Vta B8 rfl h.hb h.bx hg11;have K:=h.gt (g8.trans g11) B11;have so11:=Ym ho8 hg11 (.inr (Wb ho8 B8 rfl));have co8:=Ym co hg8 (Yja co so rfl);have co11:=Ym co8 hg11 (.inr (Wb co8 B8 rfl));have ro11:w11.ownsRow n0 24 2 (.slice none 0 0) 0 []:=Je _ _ _ _;have sr11:ScR 84 n0 w11 ([]++[.slice none 0 0]) ([]++[[]]):=ScR.push ⟨rfl,fun i v l h=>(by cases h),fun i j v u h=>(by cases h)⟩
 have k11:PK F n0 b TB X none (funS0 S) fv ms mg mn mf pv (.slice a8 (0+1) c8) cv (.slice none 0 0) [.slice none 0 0] [[]] w11:=⟨B11,K.hb,K.kF,K.hF,K.T,K.L,so11,sr11,rfl,rfl,fun i l hi v hv=>(by
  rcases Axa i with z|z;subst z;injection hi with hi;subst hi;cases hv;rw [Aya (by show 1≤_;omega)] at hi;cases hi),co11,ro11,fun l e=>(by cases e),K.tx,K.xl,K.bx,fun k hk hm=>(by
  rcases hat8 with q|q;rw [q] at hk;cases hk;rw [hk] at q;injection q with q;have:=h.xl k hm;omega),fun i v hv k hk=>(by
  rcases Axa i with z|z;subst z;injection hv with hv;subst hv;cases hk;rw [Aya (by show 1≤_;omega)] at hv;cases hv),cx,fun k hk=>(by cases hk),by show 1≤2000000;decide⟩
 have g:=g.trans (g8.trans g11);refine Ze (Yfa J ?_);exact ⟨rfl,k11.pc,g⟩
section
variable {F n:Nd} {S S':CSt}
theorem dcl_2(h:n.kind=2):dclR F n S=(plainT n,strA F n S n.kids.length):=by unfold dclR;rw [h];rfl
theorem dcl_6(h:n.kind=6):dclR F n S=(plainT n,pointerS F (Zb n 0) S):=by unfold dclR;rw [h];rfl
theorem dcl_4(h:n.kind=4):dclR F n S=funR F n S:=by unfold dclR;rw [h];rfl
theorem Xkd(k:Nd){T:CSt}(h:Er S T):Er S (pointerS F k T):=by rw [Qe];exact h.failu _ _ _
theorem Zke(k:Nd){T:CSt}(h:Er S T):Er S (localS F k T):=(Xkd k h).failu _ _ _
theorem Xld(F n:Nd)(S:CSt)(i:Nat):∀ k,Er (strA F n S i) (strA F n S (i+k))
 | 0=>Er.refl _
 | k+1=>Xkd _ ((Xld F n S i k).failu _ _ _)
theorem Xme{i:Nat}(hi:i<n.kids.length):Er (strA F n S (i+1)) (strA F n S n.kids.length):=by
 have k:=Xld F n S (i+1) (n.kids.length-(i+1));rwa [show i+1+(n.kids.length-(i+1))=n.kids.length by omega] at k
theorem Qsf{i:Nat}(hi:i<n.kids.length)(h:strA F n S i=S):Er (failU (!dupAt n i) (Zb n i).pos 6 S) (strA F n S n.kids.length):=by
 have k:=Xme (F:=F) (S:=S) hi;have e:strA F n S (i+1)=pointerS F (Zb (Zb n i) 0) (failU (!dupAt n i) (Zb n i).pos 6 (strA F n S i)):=rfl;rw [e,h] at k;exact (Xkd _ (Er.refl _)).trans k
theorem Qtf{i:Nat}(hi:i<n.kids.length)(h:strA F n S i=S)(hd:dupAt n i=false):Er (pointerS F (Zb (Zb n i) 0) S) (strA F n S n.kids.length):=by
 have k:=Xme (F:=F) (S:=S) hi;have e:strA F n S (i+1)=pointerS F (Zb (Zb n i) 0) (failU (!dupAt n i) (Zb n i).pos 6 (strA F n S i)):=rfl;rw [e,h,hd] at k;exact k
theorem Xqf{i:Nat}(h:strA F n S i=S)(hd:dupAt n i=false)(hp:(!decide ((Zb (Zb n i) 0).kind=8) || !decide ((findD F 2 (Zb (Zb n i) 0).text).2<0))=true):strA F n S (i+1)=S:=by
 show pointerS F (Zb (Zb n i) 0) (failU (!dupAt n i) (Zb n i).pos 6 (strA F n S i))=S;rw [h,hd,Qe,hp];rfl
/-! functions -/
theorem Wjb{k:Nd}(he:S.ee=0)(h:localS F k S=S):(!decide (k.kind=8) || !decide ((findD F 2 k.text).2<0))=true∧Ux (ofF k).1=true:=by
 unfold localS at h;rw [Qe] at h;cases h1:(!decide (k.kind=8) || !decide ((findD F 2 k.text).2<0));rw [h1,Wda he] at h;cases h2:Ux (ofF k).1;rw [h2] at h;have h:=congrArg CSt.ee h;rw [he] at h;unfold failU failS at h;exact absurd h Os;rw [h2] at h;have h:=congrArg CSt.ee h;rw [he] at h;exact absurd h (by show ¬ (5:Int)=0;decide);rw [h1] at h;cases h2:Ux (ofF k).1;rw [h2] at h;have h:failU false k.pos 7 S=S:=h;rw [Wda he] at h;have h:=congrArg CSt.ee h;rw [he] at h;exact absurd h (by show ¬ (7:Int)=0;decide);exact ⟨rfl,rfl⟩
theorem Xne{k:Nd}(he:S.ee=0)(h:localS F k S=S)(T:CSt):localS F k T=T:=by
 obtain ⟨h1,h2⟩:=Wjb he h;unfold localS;rw [Qe,h1,h2];rfl
theorem Xrf{k:Nd}(he:S.ee=0)(he':S'.ee=0):Er (localS F k S) (localS F k S'):=by
 unfold localS;rw [Qe,Qe];intro hn;cases h1:(!decide (k.kind=8) || !decide ((findD F 2 k.text).2<0)) <;> cases h2:Ux (ofF k).1 <;> rw [h1,h2] at hn
 rw [Wda he,Wda he'];exact ⟨rfl,rfl⟩;rw [Wda he,Wda he'];exact ⟨rfl,rfl⟩;have e:∀ T:CSt,failU true k.pos 5 T=T:=fun _=>rfl;rw [e,e,Wda he,Wda he'];exact ⟨rfl,rfl⟩;exact absurd he hn
theorem Xmd(p:Nd)(i:Nat):∀ k,Er (parA F p S i).2 (parA F p S (i+k)).2
 | 0=>Er.refl _
 | k+1=>Zke _ ((Xmd p i k).decl _ _ _)
theorem Xsf:Er (parA F (Zb n 0) (funS0 S) (Zb n 0).kids.length).2 (funR F n S).2:=by
 have h1:Er (parA F (Zb n 0) (funS0 S) (Zb n 0).kids.length).2 (funS1 F n S):=Er.refl _
 have h2:Er (funS1 F n S) (funS2 F n S):=by
  unfold funS2;cases decide ((Zb n 1).kind=9);exact Zke (F:=F) (Zb n 1) (Er.refl (funS1 F n S));exact Er.refl _
 exact ((h1.trans h2).trans ((Uh F (Zb n 2)).sts _).e).failu _ _ _
theorem Xoe{i:Nat}(hi:i<(Zb n 0).kids.length):Er (parA F (Zb n 0) (funS0 S) (i+1)).2 (funR F n S).2:=by
 have k:=Xmd (F:=F) (S:=funS0 S) (Zb n 0) (i+1) ((Zb n 0).kids.length-(i+1));rw [show i+1+((Zb n 0).kids.length-(i+1))=(Zb n 0).kids.length by omega] at k;exact k.trans Xsf
theorem Xpe{i:Nat}(hi:i<(Zb n 0).kids.length):Er (declS (Zb (Zb n 0) i).text (ofF (Zb (Zb (Zb n 0) i) 0)).1 (Zb (Zb n 0) i).pos (parA F (Zb n 0) (funS0 S) i).2) (funR F n S).2 :=
 (Zke _ (Er.refl _)).trans (Xoe hi)
theorem Quf{i:Nat}(hi:i<(Zb n 0).kids.length)(he:(parA F (Zb n 0) (funS0 S) i).2.ee=0)(hd:dupV (parA F (Zb n 0) (funS0 S) i).2 (Zb (Zb n 0) i).text=false):Er (localS F (Zb (Zb (Zb n 0) i) 0) (parA F (Zb n 0) (funS0 S) i).2) (funR F n S).2:=by
 refine (Xrf he (S':=declS (Zb (Zb n 0) i).text (ofF (Zb (Zb (Zb n 0) i) 0)).1 (Zb (Zb n 0) i).pos (parA F (Zb n 0) (funS0 S) i).2) ?_).trans (Xoe hi);rw [Xgd hd];exact he
theorem Xtf{i:Nat}(he:(parA F (Zb n 0) (funS0 S) i).2.ee=0)(hl:localS F (Zb (Zb (Zb n 0) i) 0) (parA F (Zb n 0) (funS0 S) i).2=(parA F (Zb n 0) (funS0 S) i).2) :
 parA F (Zb n 0) (funS0 S) (i+1)=((parA F (Zb n 0) (funS0 S) i).1++[.mk (Zb (Zb n 0) i).kind (Zb (Zb n 0) i).text (declN (parA F (Zb n 0) (funS0 S) i).2) (Zb (Zb n 0) i).pos ((Zb (Zb n 0) i).kids.map plainT) ty0 1 0],declS (Zb (Zb n 0) i).text (ofF (Zb (Zb (Zb n 0) i) 0)).1 (Zb (Zb n 0) i).pos (parA F (Zb n 0) (funS0 S) i).2):=by
 show (_,localS F (Zb (Zb (Zb n 0) i) 0) _)=_;rw [Xne he hl]
theorem Yyg(h9:(Zb n 1).kind≠9)(he:(parA F (Zb n 0) (funS0 S) (Zb n 0).kids.length).2.ee=0):Er (localS F (Zb n 1) (parA F (Zb n 0) (funS0 S) (Zb n 0).kids.length).2) (funR F n S).2:=by
 have h1:Er (localS F (Zb n 1) (parA F (Zb n 0) (funS0 S) (Zb n 0).kids.length).2) (localS F (Zb n 1) (funS1 F n S)):=Xrf he he
 have h2:Er (localS F (Zb n 1) (funS1 F n S)) (funS2 F n S):=by
  unfold funS2;rw [Wmg h9];exact Er.refl _
 exact ((h1.trans h2).trans ((Uh F (Zb n 2)).sts _).e).failu _ _ _
theorem Wkb{k:Nd}(h:k.kind=9):(ofF k).1=ty0:=by
 unfold ofF;cases !leafB k;rw [h];rfl;rfl
theorem Xqe(h:(Zb n 1).kind≠9→(parA F (Zb n 0) (funS0 S) (Zb n 0).kids.length).2.ee=0∧localS F (Zb n 1) (parA F (Zb n 0) (funS0 S) (Zb n 0).kids.length).2=(parA F (Zb n 0) (funS0 S) (Zb n 0).kids.length).2) :
 funS2 F n S = { (parA F (Zb n 0) (funS0 S) (Zb n 0).kids.length).2 with result:=(ofF (Zb n 1)).1 }:=by
 unfold funS2;cases h9:decide ((Zb n 1).kind=9);obtain ⟨h1,h2⟩:=h (Wsg h9);rw [Wtg,Xne h1 h2];rfl;rw [Wug,Wkb (Wrg h9)];rfl
theorem Xnd(h:(Zb n 1).kind≠9→Ux (ofF (Zb n 1)).1=true):decide ((Zb n 1).kind=9)=tyEqB (ofF (Zb n 1)).1 ty0:=by
 cases h9:decide ((Zb n 1).kind=9);have h1:=h (Wsg h9);cases h2:tyEqB (ofF (Zb n 1)).1 ty0;rfl;have e:(ofF (Zb n 1)).1=ty0:=(Zwc _ _).1 h2;rw [e] at h1;exact absurd h1 Od;rw [Wkb (Wrg h9)];rfl
theorem Ujc(F p:Nd)(S:CSt):∀ i,CanV (parA F p (funS0 S) i).2
 | 0=>fun v hv=>by cases hv
 | i+1=>by
  have h1:=Ujc F p S i;have h2:CanV (declS (Zb p i).text (ofF (Zb (Zb p i) 0)).1 (Zb p i).pos (parA F p (funS0 S) i).2):=Jnb _ _ h1 (Yec _);intro v hv;exact h2 v (by have:=(Yoa F (Zb (Zb p i) 0) (declS (Zb p i).text (ofF (Zb (Zb p i) 0)).1 (Zb p i).pos (parA F p (funS0 S) i).2)).vars;rw [← this];exact hv)
theorem Yrc(F p:Nd)(S:CSt)(i:Nat):(parA F p (funS0 S) i).2.level=0∧(parA F p (funS0 S) i).2.scope=0:=⟨(Jsb F p (funS0 S) i).level,(Jsb F p (funS0 S) i).scope⟩
end
theorem PB.keepM{F:Nd}{n0 b:Nat}{TB X:List Nat}{fv:Ga}{ms mg mn mf:Nat}{pv:Nat→Ga}{sv cv rv:Ga}{w w':Aa}(h:PB F n0 b TB X fv ms mg mn mf pv sv cv rv w){m:Nat}{es:List (List UInt8×Ga)}(hM:MapS w m es)(hg:w.grownBy w' (some m))(hn:m≠ms∧m≠mg∧m≠mn∧m≠mf)(hm:n0≤m):PB F n0 b TB X fv ms mg mn mf pv sv cv rv w':=by
 have hL:Below n0 w w':=⟨hg.os,hg.tape,hg.output,hg.size,fun k hk=>hg.block k (Aca hk h.L.hn) fun e=>by injection e with e;omega⟩;exact ⟨h.B.keep hg (Wa (hM.nblk h.B).symm),h.hb,h.kF.keep hg (fun k hk _ e=>by injection e with e;omega),h.hF,⟨h.T.hs.keep hg (Wa hn.1.symm),h.T.hg.keep hg (Wa hn.2.1.symm),h.T.hn.keep hg (Wa hn.2.2.1.symm),h.T.hf.keep hg (Wa hn.2.2.2.symm),fun s hs=>(h.T.hp s hs).keepM hM hg⟩,h.L.below hL,h.tx,fun j hj=>Aca (h.xl j hj) hg.size,h.bx⟩
theorem eqT0(y:Ty):(decide (y.kind=0)&&(decide (({ data:=y.name.toArray }:ByteArray).data.toList=({ data:=#[] }:ByteArray).data.toList)&&true))=tyEqB y ty0:=by
 first|rfl|(unfold tyEqB;rw [Bool.eq_iff_iff];simp only [Bool.and_true,Aba,Wpg];rfl)
theorem Zag{F t:Nd}{S:CSt}(h:(Zb t 1).kind=9):Er (failU (true || endsL (Zb t 2).kids) t.pos 7 ((ckT F (Zb t 2)).sts (funS2 F t S)).2) (funR F t S).2:=by
 have e:(funR F t S).2=failU (decide ((Zb t 1).kind=9) || endsL (Zb t 2).kids) t.pos 7 ((ckT F (Zb t 2)).sts (funS2 F t S)).2:=rfl;rw [e,Wng h];exact Er.refl _
theorem Xuf{F t:Nd}(HF:FW F)(hk:t.kind=2∨t.kind=6∨t.kind=4)(hp:permF t=true)(hct:count t≤1000000){n0 b:Nat}{TB X:List Nat}{S:CSt}{w:Aa}{v:Ga}(h:PX F n0 b TB X w)(he:S.ee=0)(hkw:Kd w (fun k=>k<n0) t.kids v) :
 RetP PP 31 #[.pointer (some ⟨b,0,none⟩),ndV t v] w (fun r w'=>(dclR F t S).2.ee=0∧RetN (dclR F t S).1 w.heap.size r w'∧PX F n0 b TB X w'∧GT (mutC X) n0 w w') (BadD n0 X (dclR F t S).2 w):=by
 obtain ⟨p,c,rfl,_⟩:=id hkw;have hk0:=hkw;have hlt:=h.lt;have htb:=h.tb;have hbx:=h.nx;have htb2:∀ j∈TB,j<w.heap.size:=fun j hj=>htb.2 j (htb.1 j hj);have hkl:=Wn t;obtain ⟨fv,ms,mg,mn,mf,pv,sv,cv,rv,h⟩:=h;have hms:=h.T.hs.lt;have hmg:=h.T.hg.lt;have hmn:=h.T.hn.lt;have hmf:=h.T.hf.lt;have hnn:=h.L.hn;have g:=GT.refl (mutC X) n0 w;refine Vi (m:=181) Tryz.func31 J J [(0,True,_),(1,True,_)] (Za J (Za J (Zr _))) ?_;refine BM fun b3 _ ga _ g E=>?_;have hp3:=h;have nlt3:=ga.blk.lt;have nat3:=ga.at_;have h:=Ui h;have hk0:=Ui hk0;refine AN fun b4 _ ga _ g E=>?_;have hp4:=h;have nlt4:=ga.blk.lt;have nat4:=ga.at_;have h:=Ui h;have hk0:=Ui hk0;refine IF (fun h1=>?_) fun h1=>?_;replace h1:t.kind=2:=Wrg h1;have hf:=Yea (.inl h1) hp;have ed:=dcl_2 (F:=F) (S:=S) h1;refine AU ?_;refine Una J ?_;intro m2 w22 em2 g22 z22 hM;have hl2:w.heap.size≤m2:=by have:=g.size;omega
 have g:=g.trans (GT.of_g g22);replace E:=E.grow g22;have h:=h.grow g22;have hk0:=hk0.grow g22;refine AU ?_;have hnd1:=E.1;refine Uy (fun (i:Nat) u1=>(i≤t.kids.length∧strA F t S i=S∧PB F n0 b TB X fv ms mg mn mf pv sv cv rv u1∧MapS u1 m2 (allK (t.kids.take i)))∧GT (mutC X) n0 w u1) _ [(0,True,_),(3,True,_),(4,True,_),(5,True,_),(24,True,_),(25,True,_)] (fun (i:Nat)=>[(26,True,.int .i64 i)]) (fun (i:Nat)=>t.kids.length-i) (0) ⟨⟨Aia _,rfl,h,hM⟩,g⟩ (Yb (blkE E.g1) (Yb (blkE E.g0) (Wd _))) (Za J (Za J (Za J (Za J (Za J (Za J (Za J (Zr _)))))))) ?_;clear E;rintro i u1 ⟨hI1,gl1⟩ ⟨B3,B4,_⟩;replace B3:Blk _ _ _ _:=B3;replace B4:Blk _ _ _ _:=B4;have g:=gl1;obtain ⟨hi,hst,h,hM⟩:=hI1;have hk0:=hkw.gt gl1 (fun k h=>h);have E:=Vma (L:=[(b4,_,_),(b3,_,_)]) hnd1 ⟨B4,B3,trivial⟩ rfl;refine IF (fun h2=>?_) fun h2=>?_;replace h2:i<t.kids.length:=by simp only [Wpg] at h2;omega
 obtain ⟨e0,p1,c1,hcell,hkid⟩:=Yq hk0 (i:=i) h2;have hf3:=hf _ (Jaa h2);have hfl:=(pf3 hf3.1 hf3.2).1;refine AN fun _ _ ga _ g E=>?_;have hp7:=h;have nlt7:=ga.blk.lt;have nat7:=ga.at_;have h:=Ui h;have hM:=Ui hM;have hkid:=Ui hkid;refine AS fun _ ga Ca g E=>?_;first|have h:=h.keep ga Ca O (.inl rfl)|have h:=h.keep ga Ca O (.inr ⟨by simp,fun hm=>by have:=htb2 _ hm;omega⟩)
 have hkid:=Ud hkid;have hM:=hM.keep ga (Wa (hM.nblk Ca));refine Ze (kq (Zj ?_));refine Qua [3,3,0,0,3,3,0,1] ?_;refine AU ?_;refine Uz J (Xpf (F:=t) hM (Zd J) (Zd J)) ?_;refine AU ?_;refine Y3 J Ye J J J (Vf _ _ _ _) ((fun ch w' hz=>Juc he Od (by rw [ed];exact Qsf h2 hst) hz g)) ?_;rintro _ _ ⟨rfl,hq37,ga⟩;refine RC fun g E=>?_;have h:=Uk h;have hM:=Uk hM;have hkid:=Uk hkid;have hdi:dupAt t i=false:=by simpa using hq37
 refine AU ?_;refine Waa J Via Vqd hM (Jsc hdi) (Zd J) (Zd J) Xa ?_;intro wm hM2 hgm hzm;replace E:=E.keepM hM hgm;have g:=Yd g hgm O;have hkid:=hkid.keep hgm (fun k hk _ e=>by injection e with e;omega);have h:=h.keepM hM hgm ⟨O,O,O,O⟩ O;replace hM:=hM2;refine AU ?_;obtain ⟨e1,p2,c2,hc2,_⟩:=Yq hkid (i:=0) O;refine AU ?_;refine Y2 J Qt J J (Jwb (Zb (Zb t i) 0) _ _ h.px) ((fun ch w' hz=>Juc he Od (by rw [ed,← Qe];exact Qtf h2 hst hdi) hz g)) ?_;rintro _ _ ⟨rfl,hq46,ga⟩;refine RC fun g E=>?_;have h:=Uk h;have hM:=Uk hM;refine AU ?_;refine SK [26,0,3,4,5,24,25] ?_;refine Ze (fun a ha=>?_);exact ⟨i+1,ha,⟨⟨h2,Xqf hst hdi hq46,h,by rw [Vcb h2];exact hM⟩,g⟩,(Yb (blkE E.g2) (Yb (blkE E.g1) (Wd _))),O⟩;replace h2:i=t.kids.length:=by simp only [Wqg] at h2;omega
 subst h2;rw [hst] at ed;refine AU ?_;refine CL (Jo t _ _ _ [b3,b4] hk0 hct (E.ltm Ob) g.size) ?_;rintro _ _ ⟨⟨p49,c49,rfl,q49,k49⟩,ga⟩;refine RC fun g E=>?_;have h:=Uk h;refine AS fun _ ga Ca g E=>?_;first|have h:=h.keep ga Ca O (.inl rfl)|have h:=h.keep ga Ca O (.inr ⟨by simp,fun hm=>by have:=htb2 _ hm;omega⟩)
 have k49:=k49.keep ga Oi;refine RTN ?_;rw [ed];exact ⟨he,Xp (t:=plainT t) rfl (k49.kdN q49),h.px,g⟩;replace h1:t.kind≠2:=Wsg h1;refine IF (fun h3=>?_) fun h3=>?_;replace h3:t.kind=6:=Wrg h3;obtain ⟨hl6,ht6,_⟩:=pf6 h3 hp;have ed:=dcl_6 (F:=F) (S:=S) h3;obtain ⟨e0,p1,c1,hcell,hkid⟩:=Yq hk0 (i:=0) O;refine AU ?_;refine Y2 J Qt J J (Jwb (Zb t 0) _ _ h.px) ((fun ch w' hz=>Juc he Od (by rw [ed,Qe];exact Er.refl _) hz g)) ?_;rintro _ _ ⟨rfl,hq57,ga⟩;refine RC fun g E=>?_;have h:=Uk h;have hk0:=Uk hk0;refine AU ?_;refine CL (Jo t _ _ _ [b3,b4] hk0 hct (E.ltm Ob) g.size) ?_;rintro _ _ ⟨⟨p59,c59,rfl,q59,k59⟩,ga⟩;refine RC fun g E=>?_;have h:=Uk h;refine AS fun _ ga Ca g E=>?_;first|have h:=h.keep ga Ca O (.inl rfl)|have h:=h.keep ga Ca O (.inr ⟨by simp,fun hm=>by have:=htb2 _ hm;omega⟩)
 have k59:=k59.keep ga Oi;refine RTN ?_;rw [ed,Qe,hq57];exact ⟨he,Xp (t:=plainT t) rfl (k59.kdN q59),h.px,g⟩;replace h3:t.kind≠6:=Wsg h3;have h4k:t.kind=4:=(hk.resolve_left h1).resolve_left h3;have ed:=dcl_4 (F:=F) (S:=S) h4k;obtain ⟨hl3,⟨hk5,hp5⟩,ht1,hk10,hp10⟩:=pf4 h4k hp;have hc3:=cn3 hl3;have hb2:blockB (Zb t 2)=true:=by unfold blockB;rw [hk10,hp10];rfl
 have hS2:CxM 1000001 F 57 (Zb t 2) (ckT F (Zb t 2)).sts:=(Xcf HF _ (Zb t 2) (Aaa _)).sts hb2;have hlq:=Wn (Zb t 0);have hl1:=Wn (Zb t 1);obtain ⟨e0,p0,c0,hcqw,hkqw⟩:=Yq hkw (i:=0) O;obtain ⟨_,p1,c1,hc1w,hk1w⟩:=Yq hkw (i:=1) O;obtain ⟨_,p2,c2,hc2w,hk2w⟩:=Yq hkw (i:=2) O;have hDp:pb p<n0:=Vu hkw (show 0<t.kids.length by omega);refine AU ?_;refine CL (Jn t _ _ _) ?_;rintro _ _ ⟨rfl,ga⟩;refine RC fun g E=>?_;have h:=Uk h;refine AN fun b8 _ ga _ g E=>?_;have hp8:=h;have nlt8:=ga.blk.lt;have nat8:=ga.at_;have h:=Ui h;refine AS fun _ ga Ca g E=>?_;first|have h:=h.keep ga Ca O (.inl rfl)|have h:=h.keep ga Ca O (.inr ⟨by simp,fun hm=>by have:=htb2 _ hm;omega⟩)
 refine Ze (kq (Zj (Zl (Xg Zh J (Xl Zg J (E.g2.at_ J) (Zma Zc J J O e0 (Wm Zf J J (hcqw.gt g hDp) (CL (Jn (Zb t 0) _ _ _) ?_))))))));rintro _ _ ⟨rfl,ga⟩;refine RC fun g E=>?_;have h:=Uk h;refine AN fun b9 _ ga _ g E=>?_;have hp9:=h;have nlt9:=ga.blk.lt;have nat9:=ga.at_;have h:=Ui h;refine AS fun _ ga Ca g E=>?_;first|have h:=h.keep ga Ca O (.inl rfl)|have h:=h.keep ga Ca O (.inr ⟨by simp,fun hm=>by have:=htb2 _ hm;omega⟩)
 refine AU ?_;refine Yc _ J Zca Zjc (pqc J pq0) J J ?_;intro b70 w70 N70;have l70:=We N70 g.size;have hp70:=h;have nlt70:=N70.blk.lt;have nat70:=N70.at_;have B70:=N70.blk;have g:=gtg g N70.g;replace E:=E.grow N70.g;have h:=h.grow (N70.g);refine AU ?_;refine Xr J Wrb (Zd J) (Zd J) J h.B J J ?_;intro w72 hg72 hz72 B72;replace E:=E.keepT hg72 h.B rfl;have B70:=N70.blk;have B70:=B70.keep hg72 (Wa (Zia B70 h.B rfl));have g72:GT (mutC X) n0 _ w72:=Vta h.B rfl h.hb h.bx hg72;have g:=gtw g g72;have h:=h.gt g72 B72;refine AU ?_;refine Xr J Uw (Zd J) Xa J h.B J J ?_;intro w74 hg74 hz74 B74;replace E:=E.keepT hg74 h.B rfl;have B70:=B70.keep hg74 (Wa (Zia B70 h.B rfl));have g74:GT (mutC X) n0 _ w74:=Vta h.B rfl h.hb h.bx hg74;have g:=gtw g g74;have h:=h.gt g74 B74;refine AU ?_;refine Xr J Vk (Zd J) Xa J h.B J J ?_;intro w76 hg76 hz76 B76;replace E:=E.keepT hg76 h.B rfl;have B70:=B70.keep hg76 (Wa (Zia B70 h.B rfl));have g76:GT (mutC X) n0 _ w76:=Vta h.B rfl h.hb h.bx hg76;have g:=gtw g g76;have h:=h.gt g76 B76;refine Ze (kq (Zj (Zl (Zv J (CL (Ute (S:=S) h (Yab B70 O J Od) (fun k hk hm=>by have e:b70=k:=(by injection hk);have:=hp70.xl k hm;omega)) ?_)))));rintro v78 w78 ⟨rfl,h,g78⟩;refine ⟨nw1,?_⟩;have g:=gtw g g78;replace E:=E.gtx g78;refine Ze (kq (Zj (Zj (Zl (Xg Zh J (Xl Zg J (E.g3.at_ J) (Zma Zc J J O e0 (Xg Zh J (Xl Zg J ((hcqw.gt g hDp).one (i:=4) J) (Yha Zc J (Zv J (Ze (kq (Yx (?_)))))))))))))));have hnd2:=E.1
 refine Uy (fun (i:Nat) u2=>(i≤(Zb t 0).kids.length∧(parA F (Zb t 0) (funS0 S) i).2.ee=0∧PC F n0 b TB X none (parA F (Zb t 0) (funS0 S) i).2 u2∧∃ s,Blk u2 b9 26 (ndCells (clnT (Zb t 0)) s)∧OwnN [b3,b4,b8,b9] w.heap.size u2 (parA F (Zb t 0) (funS0 S) i).1 s)∧GT (mutC X) n0 w u2) _ [(0,True,_),(3,True,_),(4,True,_),(8,True,_),(9,True,_),(60,True,_),(61,True,_),(62,True,_),(63,True,_),(64,True,_),(65,True,_),(66,True,_),(67,True,_),(68,True,_),(69,True,_),(70,True,_),(71,True,_),(72,True,_),(73,True,_),(74,True,_),(75,True,_),(76,True,_),(77,True,_),(79,True,_),(80,True,_),(81,True,_),(82,True,_),(83,True,_),(84,True,_)] (fun (i:Nat)=>[(85,True,.int .i64 i)]) (fun (i:Nat)=>(Zb t 0).kids.length-i) (0) ⟨⟨Aia _,he,h,_,E.g0,Ypa _ _ _⟩,g⟩ (Yb (blkE E.g3) (Yb (blkE E.g2) (Yb (blkE E.g1) (Wd _)))) (Za J (Za J (Za J (Za J (Za J (Za J (Za J (Za J (Za J (Za J (Za J (Za J (Za J (Za J (Za J (Za J (Za J (Za J (Za J (Za J (Za J (Za J (Za J (Za J (Za J (Za J (Za J (Za J (Za J (Za J (Zr _))))))))))))))))))))))))))))))) ?_;clear E;rintro i u2 ⟨hI2,gl2⟩ ⟨B3,B4,B8,_⟩;replace B3:Blk _ _ _ _:=B3;replace B4:Blk _ _ _ _:=B4;replace B8:Blk _ _ _ _:=B8;have g:=gl2;obtain ⟨hi,hei,h,s,B9,hO⟩:=hI2;obtain ⟨sa,sc,rfl⟩:=hO.slice;have hlen:=Uad F (Zb t 0) (funS0 S) i;have E:=Vma (L:=[(b9,_,_),(b8,_,_),(b4,_,_),(b3,_,_)]) hnd2 ⟨B9,B8,B4,B3,trivial⟩ rfl;refine Zj (Zl (Uua J J (Ze (kq (Zj (Wz J (fun h4=>?_) (fun h4=>?_)))))));replace h4:i<(Zb t 0).kids.length:=by simp only [Wpg] at h4;omega
 obtain ⟨ef,pf,cf,hcfw,hkfw⟩:=Yq hkqw (i:=i) h4;have hDq:pb p0<n0:=Vu hkqw h4;have hf3:=Yea (.inr hk5) hp5 _ (Jaa h4);have hfl:=(pf3 hf3.1 hf3.2).1;have hcF:=Wk h4;have hcG:=Wk (t:=(Zb (Zb t 0) i)) (i:=0) O;have hkG:=Wn (Zb (Zb (Zb t 0) i) 0);have hbd:=Xif F (Zb t 0) S i;have hps:=Yrc F (Zb t 0) S i;have hkf:=hkfw.gt g (fun k h=>h);have hOlt:=hO.lt;refine Yw (kq (Zj (Yx (Zj (Zl (Zma Zc J J O ef (Wm Zf J J (hcfw.gt g hDq) (AN fun b11 _ ga _ g E=>?_))))))));have hp11:=h;have nlt11:=ga.blk.lt;have nat11:=ga.at_;have hO:=Uj hO;have h:=Ui h;have hkf:=Ui hkf;refine AS fun _ ga Ca g E=>?_;first|have h:=h.keep ga Ca O (.inl rfl)|have h:=h.keep ga Ca O (.inr ⟨by simp,fun hm=>by have:=htb2 _ hm;omega⟩)
 have hkf:=Ud hkf;have hO:=Ua hO;refine Ze (kq (Zj (Zj (Zl (?_)))));obtain ⟨fv2,ms2,mg2,mn2,mf2,pv2,sv2,cv2,rv2,vs,scl,h⟩:=h;obtain ⟨l,hl⟩:∃ l,scl[(parA F (Zb t 0) (funS0 S) i).2.scope]? = some l:=⟨_,Ana (by have:=h.sl;omega)⟩;obtain ⟨q,hq⟩:∃ q,vs[(parA F (Zb t 0) (funS0 S) i).2.scope]? = some q:=⟨_,Ana (by have:=h.sl;have:=h.sr.len;omega)⟩;obtain ⟨pa,pc,rfl,_,hat⟩:=Xed h.so;obtain ⟨pi,ci,rfl,hci,_⟩:=Vyc (h.sr.row _ _ _ hq hl);have hvl:0<vs.length:=by have:=h.sl;have:=h.sr.len;omega
 have hll:l.length≤1000000:=by
  have hm:l∈scl:=Aza hl;have:=(List.sublist_flatten_of_mem hm).length_le;rw [h.fl] at this;have:=hbd.vl;omega
 refine Zv J (Vy J (Xg Xf J (Xl Yo J (h.B.at_ J) (Zz J (fun _=>Yv Yt (Zd J) Xa (fun _=>O) (fun _=>(hat _ _ hq).1)) (Xl Vh J (by have q:=(hat _ _ hq).2;rw [hps.2] at q;exact q) (Yha Wv J (Zv J (Ze (kq (Yx (?_)))))))))));have hnd3:=E.1
 refine Uy (fun (j:Nat) u3=>(j≤l.length∧((l.take j).any fun v=>decide (v.name=(Zb (Zb t 0) i).text))=false∧PK F n0 b TB X none (parA F (Zb t 0) (funS0 S) i).2 fv2 ms2 mg2 mn2 mf2 pv2 (.slice pa vs.length pc) cv2 rv2 vs scl u3∧OwnN [b3,b4,b8,b9] w.heap.size u3 (parA F (Zb t 0) (funS0 S) i).1 (.slice sa (parA F (Zb t 0) (funS0 S) i).1.length sc))∧GT (mutC X) n0 w u3) _ [(0,True,_),(3,True,_),(4,True,_),(8,True,_),(9,True,_),(11,True,_),(60,True,_),(61,True,_),(62,True,_),(63,True,_),(64,True,_),(65,True,_),(66,True,_),(67,True,_),(68,True,_),(69,True,_),(70,True,_),(71,True,_),(72,True,_),(73,True,_),(74,True,_),(75,True,_),(76,True,_),(77,True,_),(79,True,_),(80,True,_),(81,True,_),(82,True,_),(83,True,_),(84,True,_),(85,True,_),(86,True,_),(87,True,_),(88,True,_),(89,True,_),(90,True,_),(91,True,_),(92,True,_),(93,True,_),(94,True,_),(95,True,_)] (fun (j:Nat)=>[(96,True,.int .i64 j)]) (fun (j:Nat)=>l.length-j) (0) ⟨⟨Aia _,rfl,h,hO.sub Oj⟩,g⟩ (Yb (blkE E.g4) (Yb (blkE E.g3) (Yb (blkE E.g2) (Yb (blkE E.g1) (Yb (blkE E.g0) (Wd _)))))) (Za J (Za J (Za J (Za J (Za J (Za J (Za J (Za J (Za J (Za J (Za J (Za J (Za J (Za J (Za J (Za J (Za J (Za J (Za J (Za J (Za J (Za J (Za J (Za J (Za J (Za J (Za J (Za J (Za J (Za J (Za J (Za J (Za J (Za J (Za J (Za J (Za J (Za J (Za J (Za J (Za J (Za J (Zr _))))))))))))))))))))))))))))))))))))))))))) ?_;clear E;rintro j u3 ⟨hI3,gl3⟩ ⟨B3,B4,B8,B9,B11,_⟩;replace B3:Blk _ _ _ _:=B3;replace B4:Blk _ _ _ _:=B4;replace B8:Blk _ _ _ _:=B8;replace B9:Blk _ _ _ _:=B9;replace B11:Blk _ _ _ _:=B11;have g:=gl3;clear h hat hO
 obtain ⟨hj,hno,h,hO⟩:=hI3;obtain ⟨pi',ci',e',_,hrow⟩:=Vyc (h.sr.row _ _ _ hq hl);injection e' with e1 _ e2;subst e1 e2;have hkf:=hkfw.gt gl3 (fun k h=>h);have E:=Vma (L:=[(b11,_,_),(b9,_,_),(b8,_,_),(b4,_,_),(b3,_,_)]) hnd3 ⟨B11,B9,B8,B4,B3,trivial⟩ rfl;refine IF (fun h5=>?_) fun h5=>?_;replace h5:j<l.length:=by simp only [Wpg] at h5;omega
 obtain ⟨hpe,hcv⟩:=hrow j h5;have hst:((l.take (j+1)).any fun v=>decide (v.name=(Zb (Zb t 0) i).text))=decide (l[j].name=(Zb (Zb t 0) i).text):=by rw [Asa h5,List.any_append,hno,Bool.false_or];simp
 refine AN fun _ _ N13 _ g E=>?_;have hp13:=h;have nlt13:=N13.blk.lt;have nat13:=N13.at_;have hO:=hO.new N13;have h:=h.grow (N13.g);have h:=hp13.addX N13;refine AS fun _ ga Ca g E=>?_;first|have h:=h.keep ga Ca O (.inl rfl)|have h:=h.keep ga Ca O (.inr ⟨by simp,fun hm=>by have:=htb2 _ hm;omega⟩)
 have hO:=Ua hO;refine AU ?_;refine Y3 J Ye J J J (Vf _ _ _ _) ((fun ch w' hz=>Juc hei Od ((h.erd hl h5 (fun e=>by simpa using e) hz.1).trans (by rw [ed];exact Xpe h4)) hz g)) ?_;rintro _ _ ⟨rfl,hq107,ga⟩;refine RC fun g E=>?_;have h:=Uk h;have hO:=Uk hO;refine AU ?_;refine SK [96,0,3,4,8,9,11,60,61,62,63,64,65,66,67,68,69,70,71,72,73,74,75,76,77,79,80,81,82,83,84,85,86,87,88,89,90,91,92,93,94,95] ?_;refine Ze (fun a ha=>?_);exact ⟨j+1,ha,⟨⟨h5,by rw [hst];simpa using hq107,h.sub htb.1 (fun j hj=>Aha _ hj),hO.sub Oj⟩,g⟩,(Yb (blkE E.g5) (Yb (blkE E.g4) (Yb (blkE E.g3) (Yb (blkE E.g2) (Yb (blkE E.g1) (Wd _)))))),O⟩;replace h5:j=l.length:=by simp only [Wqg] at h5;omega
 subst h5;rw [List.take_length] at hno;have hdp:dupV (parA F (Zb t 0) (funS0 S) i).2 (Zb (Zb t 0) i).text=false:=by rw [h.dup hl];exact hno
 replace h:=h.pc;have hOlt:=hO.lt;refine AU ?_;obtain ⟨eg,pg,cg,hcg,hkg⟩:=Yq hkf (i:=0) O;refine AU ?_;refine Y2 J Jq J J (Ykc (Zb (Zb (Zb t 0) i) 0) _ _ h hei O) ((fun ch w' hz=>hz.d (by rw [ed];exact Quf h4 hei hdp) g)) ?_;rintro _ _ ⟨rfl,hloc,ga⟩;refine RC fun g E=>?_;have h:=Uk h;have hkf:=Uk hkf;have hO:=Uk hO;refine AN fun b14 _ N14 _ g E=>?_;have hp14:=h;have nlt14:=N14.blk.lt;have nat14:=N14.at_;have hO:=hO.new N14;have h:=h.grow (N14.g);have hkf:=hkf.grow (N14.g);have h:=hp14.addX N14;refine AS fun _ ga Ca g E=>?_;first|have h:=h.keep ga Ca O (.inl rfl)|have h:=h.keep ga Ca O (.inr ⟨by simp,fun hm=>by have:=htb2 _ hm;omega⟩)
 have hkf:=Ud hkf;have hO:=Ua hO;refine AU ?_;refine CL (Jn (Zb (Zb t 0) i) _ _ _) ?_;rintro _ _ ⟨rfl,ga⟩;refine RC fun g E=>?_;have h:=Uk h;have hkf:=Uk hkf;have hO:=Uk hO;refine AN fun b15 _ ga _ g E=>?_;have hp15:=h;have nlt15:=ga.blk.lt;have nat15:=ga.at_;have hO:=Uj hO;have h:=Ui h;have hkf:=Ui hkf;refine AS fun _ ga Ca g E=>?_;first|have h:=h.keep ga Ca O (.inl rfl)|have h:=h.keep ga Ca O (.inr ⟨by simp,fun hm=>by have:=htb2 _ hm;omega⟩)
 have hkf:=Ud hkf;have hO:=Ua hO;refine AU ?_;obtain ⟨_,pg2,cg2,hcg2,hkg2⟩:=Yq hkf (i:=0) O;have hZ:∀ j∈[b3,b4,b8,b9,b11,b14,b15],j<_:=E.ltm Ob;have hOlt:=hO.lt;refine AU ?_;refine CL (Jo (Zb (Zb (Zb t 0) i) 0) _ _ _ [b3,b4,b8,b9,b11,b14,b15] hkg2 O hZ g.size) ?_;rintro v121 w121 ⟨⟨p121,c121,rfl,q121,k121⟩,g121⟩;refine ⟨fun _=>g121,?_⟩;have g:=gtg g g121;replace E:=E.grow g121;have h:=h.grow (g121);have hO:=hO.grow (g121);obtain ⟨lo1,hl1a,hl1b,hl1o,hl1c,k121⟩:∃ lo,lo≤w121.heap.size∧w.heap.size≤lo∧(∀ k,(Ha sa (parA F (Zb t 0) (funS0 S) i).1.length sc).ownBlock=some k→k<lo)∧(∀ j∈[b3,b4,b8,b9,b11,b14,b15],j<lo)∧KdX lo [b3,b4,b8,b9,b11,b14,b15] w121 (plainT (Zb (Zb (Zb t 0) i) 0)).kids (.slice p121 (plainT (Zb (Zb (Zb t 0) i) 0)).kids.length c121):=⟨_,g121.size,q121,hOlt,hZ,k121⟩;refine CN fun b122 _ ga _ g E=>?_;have hp122:=h;have nlt122:=ga.blk.lt;have nat122:=ga.at_;have hO:=Uj hO;have k121:=Uj k121;have h:=Ui h;have kr:KdX lo1 [b3,b4,b8,b9,b11,b14,b15] _ [plainT (Zb (Zb (Zb t 0) i) 0)] (.slice (some ⟨b122,0,none⟩) 1 1):=Zga (ks:=[plainT (Zb (Zb (Zb t 0) i) 0)]) ⟨⟨O,fun hm=>by have:=hl1c b122 hm;omega⟩,Jl E.g0⟩ E.g0.row (Vd (Kd.mono k121 fun k hk _=>⟨⟨hk.1.1,fun hm=>hk.1.2 (Aha _ hm)⟩,hk.2⟩)) (Aaa _);refine AS fun _ ga Ca g E=>?_;first|have h:=h.keep ga Ca O (.inl rfl)|have h:=h.keep ga Ca O (.inr ⟨by simp,fun hm=>by have:=htb2 _ hm;omega⟩)
 have hO:=Ua hO;have kr:=kr.keep ga Oi;refine AU ?_;refine Xh (gtC (b14::X) n0) [3,0,3,0,0,1,1,2,3,2] [0,1,0,0,0,28,60,127,255,511] mix KR [0,1,2,3,4,5,6,7,8,9] J ?_;have g:=gtd g;replace E:=E.dr;have h:=h.grow (G.drew _);have hO:=hO.grow (G.drew _);have kr:=kr.grow (G.drew _);refine Zx 0 J J (fun _=>Zi Zh (Zd J)) (Yi 1 J J (fun w1 hx=>Zq Zg (Zd J) (fun _=>(E.g4.gt hx J).at_ J)) (Zx 2 J J (fun _=>Zw (Zd J)) (Yi 3 J J (fun w1 hx=>Zo Zf (Zd J) J (fun _=>(E.g1.gt hx J).row)) (Yi 4 J J (fun w1 hx=>Zo Zm (Zd J) J (fun _=>(E.gtx hx).g2.row)) (Zt 5 J J ?_)))));refine Zn (L':=[6,7,8,9]) [3,0,3,0,0,2,1,2,3,2] J J J ?_;refine Y3 J Up J J J (Qza (clnT (Zb (Zb t 0) i)) _ _ _ (ofF (Zb (Zb (Zb t 0) i) 0)).1 h hei hbd O) ((fun ch w' hz=>hz.d (by rw [ed];exact Xpe h4) g)) ?_;rintro v129 w129 ⟨hed,rfl,h,g129⟩;refine ⟨nw1,?_⟩;have g:=gtw g g129;replace E:=E.gtx g129;have hO:=hO.gt g129 rfl;have kr:=kr.gtc g129;refine Zy (g129) ?_;refine Zt 6 J J ?_;refine Zn (L':=[7,8,9]) [3,0,3,0,0,2,1,2,3,2] J J J ?_;refine CN fun _ _ N130 _ g E=>?_;have hp130:=h;have nlt130:=N130.blk.lt;have nat130:=N130.at_;have hO:=hO.new N130;have kr:=kr.new N130;have h:=h.grow (N130.g);refine Zy (GT.of_g (N130.g)) ?_;refine Zt 7 J J ?_;refine Xb (L':=[8,9]) [3,0,3,0,0,2,1,2,3,2] J J J J ?_;have hO:=hO.sub (Y:=[b3,b4,b8,b9]) Oj;have hOo:=hO
 refine Wca J Zc Zs J (Zd J) hO (Zd J) J E.g0.row (Vt (t:=.mk (Zb (Zb t 0) i).kind (Zb (Zb t 0) i).text (declN (parA F (Zb t 0) (funS0 S) i).2) (Zb (Zb t 0) i).pos [plainT (Zb (Zb (Zb t 0) i) 0)] ty0 1 0) kr O Oj (fun j hj=>.inr (hl1o j hj))) (by simp;omega) (by have:=g.size;omega) ⟨by have:=g.size;omega,by have q3:=E.g8.lt;have q4:=E.g7.lt;have q8:=E.g6.lt;have q9:=E.g5.lt;simp;omega⟩ ?_;intro a131 c131 w131 hO hg131;replace E:=E.sel [false,false,false,false,false,true,true,true,true];replace E:=E.keepX hg131 hOo.ne Ob;have g:=Ve g hg131 (fun k hk=>hOo.ge k hk);have h:=h.keepO hg131 hOo O;refine Xx ?_;refine Zx 8 J J (fun _=>Zi Zh (Zd J)) (Zt 9 J J ?_);refine Xb (L':=[]) [3,0,3,0,0,2,1,2,3,2] J J J J ?_;refine AS fun _ ga Ca g E=>?_;first|have h:=h.keep ga Ca O (.inl rfl)|have h:=h.keep ga Ca O (.inr ⟨by simp,fun hm=>by have:=htb2 _ hm;omega⟩)
 have hO:=Ua hO;refine Xx ?_;refine TK [0,3,4,8,9,11,14,15,60,61,62,63,64,65,66,67,68,69,70,71,72,73,74,75,76,77,79,80,81,82,83,84,85,86,87,88,89,90,91,92,93,94,95,96,97,109,110,111,112,113,114,115,116,117,118,119,120,121,122,123,124,125,126,127,128,129,130,131,132] ?_;refine AU ?_;refine SK [85,0,3,4,8,9,60,61,62,63,64,65,66,67,68,69,70,71,72,73,74,75,76,77,79,80,81,82,83,84] ?_;refine Ze (fun a ha=>?_);have en:=Xtf (n:=t) (S:=S) (i:=i) hei hloc;rw [show (Zb (Zb t 0) i).kids.map plainT=[plainT (Zb (Zb (Zb t 0) i) 0)] by rw [kids1 hfl];rfl] at en;exact ⟨i+1,ha,⟨⟨h4,by rw [en];exact hed,by rw [en];exact h.sub htb.1 (fun j hj=>Aha _ hj),_,E.g0,by rw [en];exact hO⟩,g⟩,(Yb (blkE E.g3) (Yb (blkE E.g2) (Yb (blkE E.g1) (Wd _)))),O⟩;replace h4:i=(Zb t 0).kids.length:=by simp only [Wqg] at h4;omega
 subst h4;refine AN fun b16 _ N16 _ g E=>?_;have hp16:=h;have nlt16:=N16.blk.lt;have nat16:=N16.at_;have hO:=hO.new N16;have h:=h.grow (N16.g);have h:=hp16.addX N16;refine Ze (kq (Zj (Zj (Zl (Xg Zh J (Xl Zg J (E.g4.at_ J) (Zma Zc J J O e0 (Xg Xi J (Xl Yf J ((hc1w.gt g hDp).one (i:=0) J) (Qld J J (Ze (kq (Wz J (fun h6=>?_) (fun h6=>?_))))))))))))));replace h6:(Zb t 1).kind≠9:=by simpa using h6
 refine Zl (Zv J (Xg Zh J (Xl Zg J (E.g4.at_ J) (Zma Zc J J O e0 (Wm Zf J J (hc1w.gt g hDp) (Y2 J Jq J J (Ykc (Zb t 1) _ _ h hei O) ((fun ch w' hz=>hz.d (by rw [ed];exact Yyg h6 hei) g)) ?_))))));rintro _ _ ⟨rfl,hloc,ga⟩;refine RC fun g E=>?_;have h:=Uk h;have hO:=Uk hO;refine AS fun _ ga Ca g E=>?_;first|have h:=h.keep ga Ca O (.inl rfl)|have h:=h.keep ga Ca O (.inr ⟨by simp,fun hm=>by have:=htb2 _ hm;omega⟩)
 have hO:=Ua hO;refine AU ?_;obtain ⟨fv3,ms3,mg3,mn3,mf3,pv3,sv3,cv3,rv3,vs3,sc3,h⟩:=h;have e2:funS2 F t S = { (parA F (Zb t 0) (funS0 S) (Zb t 0).kids.length).2 with result:=(ofF (Zb t 1)).1 }:=Xqe (by first|exact fun _=>⟨hei,hloc⟩|exact fun h9=>absurd h6 h9);refine AU ?_;refine Yc _ J Wf Xk (pqc J pq0) J J ?_;intro b148 w148 N148;have l148:=We N148 g.size;have hp148:=h;have nlt148:=N148.blk.lt;have nat148:=N148.at_;have hO:=hO.new N148;have B148:=N148.blk;have g:=gtg g N148.g;replace E:=E.grow N148.g;have h:=h.grow (N148.g);refine AU ?_;refine Xr J Uw (Zd J) (Zd J) J h.B J J ?_;intro w150 hg150 hz150 B150;replace E:=E.keepT hg150 h.B rfl;have B148:=N148.blk.keep hg150 (Wa (Zia N148.blk h.B rfl));have g150:GT (mutC (b16::X)) n0 _ w150:=Vta h.B rfl h.hb h.bx hg150;have g:=gtw g g150;have hO:=hO.gt g150 rfl;have ro3:w150.ownsRow n0 24 2 (.slice (some ⟨b148,0,none⟩) 1 1) 1 ([(ofF (Zb t 1)).1].flatMap tyCells):=by first|exact Yab B148 O rfl Od|(rw [Wkb h6];exact Yab B148 O rfl Od)
 have h:=(hp148.oth (q1:=some []) (S':={ (parA F (Zb t 0) (funS0 S) (Zb t 0).kids.length).2 with result:=(ofF (Zb t 1)).1 }) ((GT.of_g N148.g).trans g150) B150 (Ym h.so hg150 (.inr (Wb h.so h.B rfl))) (h.sr.keepb hg150 h.B rfl) (Ym h.co hg150 (.inr (Wb h.co h.B rfl))) ro3 (fun l e=>by injection e with e;subst e;exact (Yrc F (Zb t 0) S _).1.symm) (fun k hk=>.inl hk) (fun k hk=>.inr (by have e:b148=k:=(by injection hk);omega)) rfl rfl).pc;rw [← e2] at h;have he2:(funS2 F t S).ee=0:=by rw [e2];exact hei
 have hcan:CanV (funS2 F t S):=by rw [e2];exact Ujc F (Zb t 0) S (Zb t 0).kids.length
 have hbd2:=Xke F t S;refine Ze (kq (Zj (Zl (Zv J (Xg Zh J (Xl Zg J (E.g4.at_ J) (Zma Zc J J O e0 (Wm Zf J J (hc2w.gt g hDp) (Y2 J Vq J J (CxM.to hS2 [b3,b4,b8,b9,b16] h he2 hcan (hk2w.gt g (fun k h=>h)) hbd2 O (E.ltm Ob) g.size) ((fun ch w' hz=>hz.d (by rw [ed];exact (Er.refl _).failu _ _ _) g)) ?_)))))))));rintro v156 w156 ⟨⟨p156,c156,rfl,q156,k156⟩,he156,h,g156⟩;refine ⟨nw1,?_⟩;have g:=gtw g g156;replace E:=E.gtx g156;have hO:=hO.gt g156 rfl;refine AN fun b17 _ ga l17 g E=>?_;have hp17:=h;have nlt17:=ga.blk.lt;have nat17:=ga.at_;have hO:=Uj hO;have k156:=Uj k156;have h:=Ui h;refine AS fun _ ga Ca g E=>?_;first|have h:=h.keep ga Ca O (.inl rfl)|have h:=h.keep ga Ca O (.inr ⟨by simp,fun hm=>by have:=htb2 _ hm;omega⟩)
 have hO:=Ua hO;have k156:=k156.keep ga Oi;refine AU ?_;skip;refine Xs [0,3,0,3,0,1,0,1,3,2] [true,true,true,true,true,true,false,true,true,true] [0,0,2,6,14,30,0,127,255,511] mix KR ?_;have g:=gtd g;replace E:=E.dr;have h:=h.grow (G.drew _);have hO:=hO.grow (G.drew _);have k156:=k156.grow (G.drew _);have EC:=E;refine Wm Zf J J E.g2.row (Xg Zh J (Xl Zg J (E.g5.at_ J) (Zma Zc J J O e0 (Wm Zf J J (hc1w.gt g hDp) (CL (Jo (Zb t 1) _ _ _ [b3,b4,b8,b9,b16,b17] (hk1w.gt g (fun k h=>h)) O (E.ltm Ob) g.size) ?_)))));rintro _ _ ⟨⟨p162,c162,rfl,q162,k162⟩,ga⟩;refine RC fun g E=>?_;have h:=Uk h;have hO:=Uk hO;have k156:=Uk k156;refine Zfc J (Zo Zf (Zd J) J (fun _=>EC.g0.row)) (CN fun _ _ ga l164 g E=>?_);have hp164:=h;have nlt164:=ga.blk.lt;have nat164:=ga.at_;have hO:=Uj hO;have k156:=Uj k156;have k162:=Uj k162;have h:=Ui h;refine AS fun _ ga Ca g E=>?_;first|have h:=h.keep ga Ca O (.inl rfl)|have h:=h.keep ga Ca O (.inr ⟨by simp,fun hm=>by have:=htb2 _ hm;omega⟩)
 have hO:=Ua hO;have k156:=k156.keep ga Oi;have k162:=k162.keep ga Oi;refine AU ?_;refine Xh (rowR none) [0,3,3,3,3,0,3,3,0,1,3,3,0,1] [0,0,3,7,15,31,63,127,255,511,1023,0,2048,8191] mix KR [0,1,2,3,4,5,6,7,8,9,10,11,12,13] J ?_;have g:=gtd g;replace E:=E.dr;have h:=h.grow (G.drew _);have hO:=hO.grow (G.drew _);have k156:=k156.grow (G.drew _);have k162:=k162.grow (G.drew _);refine Yi 0 J J (fun w1 hx=>Zo Zm (Zd J) J (fun _=>(E.g2.keep hx (fun h=>nomatch h)).row)) (Zx 1 J J (fun _=>Uv [_,_] Xk J Vm (Vj) J) (Zx 2 J J (fun _=>Qx Wo (Zd J) (Zd J) J) (Zx 3 J J (fun _=>Zw (Zd J)) (Yga (L':=[5,6,7,8,9,10,11,12,13]) 4 J J J J J (fun _=>Zi Zh (Zd J)) (Wsa (L':=[6,7,8,9,10,11,12,13]) 5 J J J J J (fun w1 hx=>Zq Zg (Zp J id) (fun _=>(E.g6.keep hx (fun h=>nomatch h)).at_ J)) (Yga (L':=[7,8,9,10,11,12,13]) 6 J J J J J (fun _=>Yv Zc (Zp J id) Xa (fun _=>O) (fun _=>e0)) (Yga (L':=[8,9,10,11,12,13]) 7 J J J J J (fun _=>Zi Zh (Zp J id)) (Wsa (L':=[9,10,11,12,13]) 8 J J J J J (fun w1 hx=>Zq Zg (Zp J id) (fun _=>((hc2w.gt g hDp).kn hx).one (i:=4) J)) (Zx 11 J J (fun _=>Zi Xz (Zd J)) (Yi 12 J J (fun w1 hx=>Zq Yf (Zd J) (fun _=>(E.g6.keep hx (fun h=>nomatch h)).at_ J)) (Zt 9 J J ?_)))))))))));refine Zn (L':=[10,13]) [0,3,3,3,3,0,3,3,0,1,3,3,0,1] J J J ?_;refine CG (fun hc=>Ubd 1000001 _ _ _ _ (hk2w.gt g (fun k h=>h)) (sh10 hb2) (by have:=Jrb (Zb t 2);omega) (Aaa _)) (fun w175 g175=>?_);have g:=gtg g g175;replace E:=E.grow g175;have h:=h.grow (g175);have hO:=hO.grow (g175)
 have k156:=k156.grow (g175);have k162:=k162.grow (g175);refine Zy ((g175).only _) ?_;refine Zx 10 J J (fun _=>Xd (Zd J) (Zp J id)) (Zt 13 J J ?_);refine Zn (L':=[]) [0,3,3,3,3,0,3,3,0,1,3,3,0,1] J J J ?_;refine Y3 J Ye J J J (Vf _ _ _ _) ((fun ch w' hz=>Juc he156 Od (by rw [ed];first|exact Zag h6|(rw [eqT0,← Xnd (fun _=>(Wjb hei hloc).2)];exact Er.refl _)) hz g)) ?_;rintro v179 w179 ⟨rfl,hq179,g179⟩;refine ⟨fun _=>g179,?_⟩;have g:=gtg g g179;replace E:=E.grow g179;have h:=h.grow (g179);have hO:=hO.grow (g179);have k156:=k156.grow (g179);have k162:=k162.grow (g179);refine Zy ((g179).only _) ?_;refine TK [0,3,4,8,9,16,17,60,61,62,63,64,65,66,67,68,69,70,71,72,73,74,75,76,77,79,80,81,82,83,84,85,86,134,135,136,137,138,139,140,141,142,143,144,145,146,147,148,149,150,151,152,153,154,155,156,157,158,159,160,161,162,163,164,165,166,167,168,169,170,171,172,173,174,175,176,177,178] ?_;refine AS fun _ ga Ca g E=>?_;first|have h:=h.keep ga Ca O (.inl rfl)|have h:=h.keep ga Ca O (.inr ⟨by simp,fun hm=>by have:=htb2 _ hm;omega⟩)
 have hO:=Ua hO;have k156:=k156.keep ga Oi;have k162:=k162.keep ga Oi;refine RTN ?_;have hz:(decide ((Zb t 1).kind=9) || endsL (Zb t 2).kids)=true:=by first|(rw [Wng h6];rfl)|(rw [Xnd (fun _=>(Wjb hei hloc).2),← eqT0];exact hq179)
 have e:funR F t S=(annT t [annT (Zb t 0) (parA F (Zb t 0) (funS0 S) (Zb t 0).kids.length).1 ty0,plainT (Zb t 1),((ckT F (Zb t 2)).sts (funS2 F t S)).1] ty0,failU (decide ((Zb t 1).kind=9) || endsL (Zb t 2).kids) t.pos 7 ((ckT F (Zb t 2)).sts (funS2 F t S)).2):=rfl;rw [ed,e,hz];exact ⟨he156,Xp (t:=annT t [annT (Zb t 0) (parA F (Zb t 0) (funS0 S) (Zb t 0).kids.length).1 ty0,plainT (Zb t 1),_] ty0) rfl (Zga (ks:=[annT (Zb t 0) (parA F (Zb t 0) (funS0 S) (Zb t 0).kids.length).1 ty0,plainT (Zb t 1),_]) ⟨l164,Jl E.g0⟩ E.g0.row (Uo (hO.sub (Y:=[b3,b4,b8,b9]) Oj).kd (Uo (k162.kdN q162) (Vd (k156.kdN q156)))) (Aaa _)),(h.sub htb.1 (fun j hj=>Aha _ hj)).px,g⟩;replace h6:(Zb t 1).kind=9:=by simpa using h6
 refine AU ?_;obtain ⟨fv3,ms3,mg3,mn3,mf3,pv3,sv3,cv3,rv3,vs3,sc3,h⟩:=h;have e2:funS2 F t S = { (parA F (Zb t 0) (funS0 S) (Zb t 0).kids.length).2 with result:=(ofF (Zb t 1)).1 }:=Xqe (by first|exact fun _=>⟨hei,hloc⟩|exact fun h9=>absurd h6 h9);refine AU ?_;refine Yc _ J Wf Xk (pqc J pq0) J J ?_;intro b148 w148 N148;have l148:=We N148 g.size;have hp148:=h;have nlt148:=N148.blk.lt;have nat148:=N148.at_;have hO:=hO.new N148;have B148:=N148.blk;have g:=gtg g N148.g;replace E:=E.grow N148.g;have h:=h.grow (N148.g);refine AU ?_;refine Xr J Uw (Zd J) (Zd J) J h.B J J ?_;intro w150 hg150 hz150 B150;replace E:=E.keepT hg150 h.B rfl;have B148:=N148.blk.keep hg150 (Wa (Zia N148.blk h.B rfl));have g150:GT (mutC (b16::X)) n0 _ w150:=Vta h.B rfl h.hb h.bx hg150;have g:=gtw g g150;have hO:=hO.gt g150 rfl;have ro3:w150.ownsRow n0 24 2 (.slice (some ⟨b148,0,none⟩) 1 1) 1 ([(ofF (Zb t 1)).1].flatMap tyCells):=by first|exact Yab B148 O rfl Od|(rw [Wkb h6];exact Yab B148 O rfl Od)
 have h:=(hp148.oth (q1:=some []) (S':={ (parA F (Zb t 0) (funS0 S) (Zb t 0).kids.length).2 with result:=(ofF (Zb t 1)).1 }) ((GT.of_g N148.g).trans g150) B150 (Ym h.so hg150 (.inr (Wb h.so h.B rfl))) (h.sr.keepb hg150 h.B rfl) (Ym h.co hg150 (.inr (Wb h.co h.B rfl))) ro3 (fun l e=>by injection e with e;subst e;exact (Yrc F (Zb t 0) S _).1.symm) (fun k hk=>.inl hk) (fun k hk=>.inr (by have e:b148=k:=(by injection hk);omega)) rfl rfl).pc;rw [← e2] at h;have he2:(funS2 F t S).ee=0:=by rw [e2];exact hei
 have hcan:CanV (funS2 F t S):=by rw [e2];exact Ujc F (Zb t 0) S (Zb t 0).kids.length
 have hbd2:=Xke F t S;refine Ze (kq (Zj (Zl (Zv J (Xg Zh J (Xl Zg J (E.g4.at_ J) (Zma Zc J J O e0 (Wm Zf J J (hc2w.gt g hDp) (Y2 J Vq J J (CxM.to hS2 [b3,b4,b8,b9,b16] h he2 hcan (hk2w.gt g (fun k h=>h)) hbd2 O (E.ltm Ob) g.size) ((fun ch w' hz=>hz.d (by rw [ed];exact (Er.refl _).failu _ _ _) g)) ?_)))))))));rintro v156 w156 ⟨⟨p156,c156,rfl,q156,k156⟩,he156,h,g156⟩;refine ⟨nw1,?_⟩;have g:=gtw g g156;replace E:=E.gtx g156;have hO:=hO.gt g156 rfl;refine AN fun b17 _ ga _ g E=>?_;have hp17:=h;have nlt17:=ga.blk.lt;have nat17:=ga.at_;have hO:=Uj hO;have k156:=Uj k156;have h:=Ui h;refine AS fun _ ga Ca g E=>?_;first|have h:=h.keep ga Ca O (.inl rfl)|have h:=h.keep ga Ca O (.inr ⟨by simp,fun hm=>by have:=htb2 _ hm;omega⟩)
 have hO:=Ua hO;have k156:=k156.keep ga Oi;refine AU ?_;skip;refine Xs [0,3,0,3,0,1,0,1,3,2] [true,true,true,true,true,true,false,true,true,true] [0,0,2,6,14,30,0,127,255,511] mix KR ?_;have g:=gtd g;replace E:=E.dr;have h:=h.grow (G.drew _);have hO:=hO.grow (G.drew _);have k156:=k156.grow (G.drew _);have EC:=E;refine Wm Zf J J E.g2.row (Xg Zh J (Xl Zg J (E.g5.at_ J) (Zma Zc J J O e0 (Wm Zf J J (hc1w.gt g hDp) (CL (Jo (Zb t 1) _ _ _ [b3,b4,b8,b9,b16,b17] (hk1w.gt g (fun k h=>h)) O (E.ltm Ob) g.size) ?_)))));rintro _ _ ⟨⟨p162,c162,rfl,q162,k162⟩,ga⟩;refine RC fun g E=>?_;have h:=Uk h;have hO:=Uk hO;have k156:=Uk k156;refine Zfc J (Zo Zf (Zd J) J (fun _=>EC.g0.row)) (CN fun _ _ ga l164 g E=>?_);have hp164:=h;have nlt164:=ga.blk.lt;have nat164:=ga.at_;have hO:=Uj hO;have k156:=Uj k156;have k162:=Uj k162;have h:=Ui h;refine AS fun _ ga Ca g E=>?_;first|have h:=h.keep ga Ca O (.inl rfl)|have h:=h.keep ga Ca O (.inr ⟨by simp,fun hm=>by have:=htb2 _ hm;omega⟩)
 have hO:=Ua hO;have k156:=k156.keep ga Oi;have k162:=k162.keep ga Oi;refine AU ?_;refine Xh (rowR none) [0,3,3,3,3,0,3,3,0,1,3,3,0,1] [0,0,3,7,15,31,63,127,255,511,1023,0,2048,8191] mix KR [0,1,2,3,4,5,6,7,8,9,10,11,12,13] J ?_;have g:=gtd g;replace E:=E.dr;have h:=h.grow (G.drew _);have hO:=hO.grow (G.drew _);have k156:=k156.grow (G.drew _);have k162:=k162.grow (G.drew _);refine Yi 0 J J (fun w1 hx=>Zo Zm (Zd J) J (fun _=>(E.g2.keep hx (fun h=>nomatch h)).row)) (Zx 1 J J (fun _=>Uv [_,_] Xk J Vm (Vj) J) (Zx 2 J J (fun _=>Qx Wo (Zd J) (Zd J) J) (Zx 3 J J (fun _=>Zw (Zd J)) (Yga (L':=[5,6,7,8,9,10,11,12,13]) 4 J J J J J (fun _=>Zi Zh (Zd J)) (Wsa (L':=[6,7,8,9,10,11,12,13]) 5 J J J J J (fun w1 hx=>Zq Zg (Zp J id) (fun _=>(E.g6.keep hx (fun h=>nomatch h)).at_ J)) (Yga (L':=[7,8,9,10,11,12,13]) 6 J J J J J (fun _=>Yv Zc (Zp J id) Xa (fun _=>O) (fun _=>e0)) (Yga (L':=[8,9,10,11,12,13]) 7 J J J J J (fun _=>Zi Zh (Zp J id)) (Wsa (L':=[9,10,11,12,13]) 8 J J J J J (fun w1 hx=>Zq Zg (Zp J id) (fun _=>((hc2w.gt g hDp).kn hx).one (i:=4) J)) (Zx 11 J J (fun _=>Zi Xz (Zd J)) (Yi 12 J J (fun w1 hx=>Zq Yf (Zd J) (fun _=>(E.g6.keep hx (fun h=>nomatch h)).at_ J)) (Zt 9 J J ?_)))))))))));refine Zn (L':=[10,13]) [0,3,3,3,3,0,3,3,0,1,3,3,0,1] J J J ?_;refine CG (fun hc=>Ubd 1000001 _ _ _ _ (hk2w.gt g (fun k h=>h)) (sh10 hb2) (by have:=Jrb (Zb t 2);omega) (Aaa _)) (fun w175 g175=>?_);have g:=gtg g g175;replace E:=E.grow g175;have h:=h.grow (g175);have hO:=hO.grow (g175)
 have k156:=k156.grow (g175);have k162:=k162.grow (g175);refine Zy ((g175).only _) ?_;refine Zx 10 J J (fun _=>Xd (Zd J) (Zp J id)) (Zt 13 J J ?_);refine Zn (L':=[]) [0,3,3,3,3,0,3,3,0,1,3,3,0,1] J J J ?_;refine Y3 J Ye J J J (Vf _ _ _ _) ((fun ch w' hz=>Juc he156 Od (by rw [ed];first|exact Zag h6|(rw [eqT0,← Xnd (fun _=>(Wjb hei hloc).2)];exact Er.refl _)) hz g)) ?_;rintro v179 w179 ⟨rfl,hq179,g179⟩;refine ⟨fun _=>g179,?_⟩;have g:=gtg g g179;replace E:=E.grow g179;have h:=h.grow (g179);have hO:=hO.grow (g179);have k156:=k156.grow (g179);have k162:=k162.grow (g179);refine Zy ((g179).only _) ?_;refine TK [0,3,4,8,9,16,17,60,61,62,63,64,65,66,67,68,69,70,71,72,73,74,75,76,77,79,80,81,82,83,84,85,86,134,135,136,137,138,139,146,147,148,149,150,151,152,153,154,155,156,157,158,159,160,161,162,163,164,165,166,167,168,169,170,171,172,173,174,175,176,177,178] ?_;refine AS fun _ ga Ca g E=>?_;first|have h:=h.keep ga Ca O (.inl rfl)|have h:=h.keep ga Ca O (.inr ⟨by simp,fun hm=>by have:=htb2 _ hm;omega⟩)
 have hO:=Ua hO;have k156:=k156.keep ga Oi;have k162:=k162.keep ga Oi;refine RTN ?_;have hz:(decide ((Zb t 1).kind=9) || endsL (Zb t 2).kids)=true:=by first|(rw [Wng h6];rfl)|(rw [Xnd (fun _=>(Wjb hei hloc).2),← eqT0];exact hq179)
 have e:funR F t S=(annT t [annT (Zb t 0) (parA F (Zb t 0) (funS0 S) (Zb t 0).kids.length).1 ty0,plainT (Zb t 1),((ckT F (Zb t 2)).sts (funS2 F t S)).1] ty0,failU (decide ((Zb t 1).kind=9) || endsL (Zb t 2).kids) t.pos 7 ((ckT F (Zb t 2)).sts (funS2 F t S)).2):=rfl;rw [ed,e,hz];exact ⟨he156,Xp (t:=annT t [annT (Zb t 0) (parA F (Zb t 0) (funS0 S) (Zb t 0).kids.length).1 ty0,plainT (Zb t 1),_] ty0) rfl (Zga (ks:=[annT (Zb t 0) (parA F (Zb t 0) (funS0 S) (Zb t 0).kids.length).1 ty0,plainT (Zb t 1),_]) ⟨l164,Jl E.g0⟩ E.g0.row (Uo (hO.sub (Y:=[b3,b4,b8,b9]) Oj).kd (Uo (k162.kdN q162) (Vd (k156.kdN q156)))) (Aaa _)),(h.sub htb.1 (fun j hj=>Aha _ hj)).px,g⟩
theorem Uue:(typeNames.all fun s=>(decide (Ux ⟨typKind s,[]⟩ = !decide (8≤typKind s))) && !decide (typKind s=0))=true:=KR
theorem Xvf{s:List UInt8}(h:typeNameB s=true):Ux ⟨typKind s,[]⟩=(!decide (8≤typKind s))∧typKind s≠0:=by
 have:=Aga.1 Uue s ((Jib _ _).1 h);simpa using this
theorem Ysc{k:Nd}(h:isTypeB k=true):GoodT (ofF k).1∧tyEqB (ofF k).1 ty0=false:=by
 unfold isTypeB at h;unfold ofF;cases h8:decide (k.kind=8);rw [h8] at h;cases h7:decide (k.kind=7);rw [h7] at h;cases h;rw [h7] at h;have h:(typeNameB k.text&&leafB k)=true:=h;obtain ⟨h1,h2⟩:=Aja.1 h;rw [h2,h1,show decide (k.kind=9)=false from Wmg (by have:=Wrg h7;omega)];obtain ⟨g1,g2⟩:=Xvf h1;refine ⟨g1,?_⟩;cases q:tyEqB (⟨typKind k.text,[]⟩:Ty) ty0;exact q;have e:=(Zwc _ _).1 q;exact absurd (congrArg Ty.kind e) g2;rw [h8] at h;have h:(nameB k.text&&leafB k)=true:=h;obtain ⟨h1,h2⟩:=Aja.1 h;rw [h2,h1,show decide (k.kind=9)=false from Wmg (by have:=Wrg h8;omega)];refine ⟨?_,?_⟩;show Ux ⟨4,k.text⟩=true;have e:refB ⟨4,k.text⟩=true:=h1;unfold Ux;rw [e,Bool.or_true];cases q:tyEqB (⟨4,k.text⟩:Ty) ty0;exact q;have e:=(Zwc _ _).1 q;exact absurd (congrArg Ty.kind e) (show ¬ (4:Int)=0 by decide)
theorem Uqa{kd:Int}{s:List UInt8}{F:Nd}(h:0≤(findD F kd s).2):∃ j,∃ hj:j<F.kids.length,(Zb F j).kind=kd∧(Zb F j).text=s∧(findD F kd s).1=Zb F j:=by
 obtain ⟨j,hj,h1,h2,_⟩:=Jub kd s F.kids 0 h;refine ⟨j,hj,by rw [Yz hj];exact h1,?_,by rw [Yz hj];exact h2⟩
 have e:∀ (l:List Nd) (k:Nat),0≤(findK kd s l k).2→(findK kd s l k).1.text=s:=by
  intro l
  induction l with
  | nil=>intro k h;exact absurd h (show ¬ (0:Int)≤-1 by decide)
  | cons d l ih =>
   intro k h;unfold findK at h ⊢;cases hd:decide (d.kind=kd);rw [hd] at h;exact ih k h;rw [hd] at h;cases hs:decide (d.text=s);rw [hs] at h;exact ih (k+1) h;exact Wrg hs
 have h3:=e F.kids 0 h;rw [h2] at h3;rw [Yz hj];exact h3
theorem Xod{F:Nd}{i j:Nat}(hj:j<i)(hi:i<F.kids.length)(e:(Zb F j).text=(Zb F i).text):dupAt F i=true:=by
 unfold dupAt;rw [List.any_eq_true];refine ⟨Zb F j,?_,Wng e⟩;rw [Yz O,List.mem_take_iff_getElem];exact ⟨j,O,rfl⟩
theorem fw_of{F:Nd}(hv:validB F=true)(hd:∀ j,j<F.kids.length→dupAt F j=false):FW F:=by
 obtain ⟨h1,hp⟩:=Wib hv;have hdc:=Yqc h1 hp;refine ⟨fun s hs=>?_,fun s hs=>?_,fun s f hf=>?_,fun s hs=>?_⟩;obtain ⟨j,hj,k4,_,e⟩:=Uqa hs;rw [e];obtain ⟨_,_,ht,_⟩:=pf4 k4 (hdc _ (Jaa hj)).2;unfold resT;rcases ht with ht|ht;rw [(Ysc ht).2];exact (Wmg (Xcd ht)).symm;have h9:=(Jw ht).1;rw [Wkb h9,Wng h9];rfl;obtain ⟨j,hj,k6,_,e⟩:=Uqa hs;rw [e];exact (Ysc (pf6 k6 (hdc _ (Jaa hj)).2).2.1).1;unfold Ut at hf
 cases hq:F.kids.find? (isStr s) with
 | none=>rw [hq] at hf;cases hf
 | some d =>
  rw [hq] at hf;have hm:=List.mem_of_find?_eq_some hq
  have h2:d.kind=2:=by
   have:=List.find?_some hq;unfold isStr at this;simp only [Bool.not_eq_true',Awa,Bool.not_eq_false',Wpg] at this;exact this.1
  have hpd:=(hdc d hm).2;dsimp only at hf
  cases hl:mapO Qj d.kids with
  | none=>rw [hl] at hf;cases hf
  | some l =>
   rw [hl] at hf;obtain ⟨z,hz,e⟩:=Vnc _ _ hl f hf;have hz3:=Yea (.inl h2) hpd z hz;obtain ⟨hzl,hzt⟩:=pf3 hz3.1 hz3.2;unfold Qj at e;rw [hz3.1,hzl] at e;have e:(bif (ofF (kid0 z)).2 then some ⟨z.text,(ofF (kid0 z)).1⟩ else none)=some f:=e;cases h2:(ofF (kid0 z)).2;rw [h2] at e;cases e;rw [h2] at e;injection e with e;subst e;exact (Ysc hzt).1
 obtain ⟨i,hi,k6,e6,_⟩:=Uqa hs;rcases Int.lt_or_le (findD F 4 s).2 0 with h|h;exact h;obtain ⟨j,hj,k4,e4,_⟩:=Uqa h;rcases Nat.lt_trichotomy i j with q|q|q;have:=Xod q hj (e6.trans e4.symm);rw [hd j hj] at this;cases this;subst q;rw [k6] at k4;exact absurd k4 Od;have:=Xod q hi (e4.trans e6.symm);rw [hd i hi] at this;cases this
def RecD(P:Fa)(f:FuncId)(args:Array Ga)(u u':FrameMode)(w:Aa)(R:Ga→Aa→Prop):Prop:=CallsDIn Fence.wide (0-1) P f args u w fun e u2 w'=>u2=u'∧∃ v,e = .returned v∧R v w'
section
variable {P:Fa} {n:Nat} {fn:Func} {R:Ga→Aa→Prop} {Rp:List Da→Aa→Prop} {σ:List Ent} {w:Aa} {ds:List Deferred}
theorem Yzg{f:Nat}{cs args:Array Ga}{R':Ga→Aa→Prop}(hgo:goFn P f=true)(hC:RecD P f (args++cs) .returning .returning w R')(h:∀ v w',R' v w'→∀ a,Kn n σ a→TD P fn R Rp ds a w'):∀ a,Kn n σ a→TD P fn R Rp (fnD f cs args::ds) a w:=fun a ha=>by
 refine ⟨by simp,.inr ⟨(fun h=>by cases h),.func f,cs,f,args++cs,rfl,Yxb hgo _ _,fun _ _=>trivial,?_⟩⟩;refine ⟨hC.1,fun c cs' hu hr=>?_⟩;obtain ⟨e,u',w',fr,⟨rfl,v,rfl,hv⟩,h2⟩:=hC.2 c cs' hu hr;refine ⟨.returned v,_,w',fr,?_,h2⟩;show LeavesInM _ _ _ _ _ _ _ (settle .returning) _;exact h v w' hv a ha
theorem Xag{f:Nat}{cs args:Array Ga}{ch:List Da}{u':FrameMode}{R':Ga→Aa→Prop}(hgo:goFn P f=true)(hs:settle u' = .returning)(hC:RecD P f (args++cs) (.panicking ch) u' w R')(h:∀ v w',R' v w'→∀ a,Kn n σ a→TD P fn R Rp ds a w'):∀ a,Kn n σ a→ZD P fn R Rp ch (fnD f cs args::ds) a w:=fun a ha=>by
 refine ⟨by simp,.inr ⟨(fun h=>by cases h),.func f,cs,f,args++cs,rfl,Yxb hgo _ _,fun _ _=>trivial,?_⟩⟩;refine ⟨hC.1,fun c cs' hu hr=>?_⟩;obtain ⟨e,u2,w',fr,⟨rfl,v,rfl,hv⟩,h2⟩:=hC.2 c cs' hu hr;refine ⟨.returned v,_,w',fr,?_,h2⟩;show LeavesInM _ _ _ _ _ _ _ (settle u2) _;rw [hs];exact h v w' hv a ha
theorem Zle{F:Fence}{k i:Nat}{ops:Array Oper}{Q:Exit→Act→List Frame→Aa→Prop}{l:List Nat}{a:Act}{cs:List Frame}{o:Oper}{v:Ga}{w':Aa}(ho:ops[i]? = some o)(hg:o.guard=none)(hr:(execOp a.eval o).run P w = .ok (.value v) w')(hab:∀ f,o.about P w a.eval=some f→F.fn f)
 (h:wpOpsSIn F k P ops Q l (a.put o.dst v) cs w'):wpOpsSIn F k P ops Q (i::l) a cs w:=by
 unfold wpOpsSIn;simp only [ho];refine ⟨hab,?_⟩;rw [if_pos (by unfold Region.wanted;rw [hg])];simp only [hr];exact h
theorem Xpd{F:Fence}{k i:Nat}{ops:Array Oper}{Q:Exit→Act→List Frame→Aa→Prop}{l:List Nat}{a:Act}{cs:List Frame}{o:Oper}{w':Aa}(ho:ops[i]? = some o)(hg:o.guard=none)(hr:(execOp a.eval o).run P w = .ok .recover w')(hab:∀ f,o.about P w a.eval=some f→F.fn f)
  (h:match recoverD cs with
   | some (v,cs')=>wpOpsSIn F k P ops Q l (a.put o.dst v) cs' w'
   | none=>wpOpsSIn F k P ops Q l (a.put o.dst .nilIface) cs w'):wpOpsSIn F k P ops Q (i::l) a cs w:=by
 unfold wpOpsSIn
 simp only [ho]
 refine ⟨hab,?_⟩
 rw [if_pos (by unfold Region.wanted;rw [hg])]
 simp only [hr]
 exact h
theorem Ukc{f id d0 d1:Nat}{fn:Func}{t0 t1:Ba}{p0 p1:String}{e0 e1:Array Edge}{rest:Code}{args:List Ga}{x:Ga}{u u':FrameMode}{R:Ga→Aa→Prop}{m:Nat}
 (hf:P.funcs[f]? = some fn) (hb:fn.body=some (.seq (.region id #[⟨some d0,.call { callee:=.builtin .recover,args:=#[],argTypes:=#[] },t0,p0,e0,none⟩,⟨some d1,.assign (.tmp d0),t1,p1,e1,none⟩] false) rest)) (hm:args.length+(fn.ntmps-args.length)=m)
 (σ0:List Ent) (hs:Sub σ0 (argsK 0 args)) (h0:Nat.blt d0 m=true) (h1:Nat.blt d1 m=true)
 (hrec:∀ (c₀:Frame) (cs:List Frame),c₀.mode=u→recoverD (c₀::cs)=some (x,{ c₀ with mode:=u' }::cs)∨(recoverD (c₀::cs)=none∧x = .nilIface∧u'=u))
 (hh:SC P m rest (fun a w=>bodyPost P fn (fun e w'=>∃ v,e = .returned v∧R v w') .normal a w) [] (fun a w=>bodyPost P fn (fun e w'=>∃ v,e = .returned v∧R v w') .ret a w) ((d1,True,x)::(d0,True,x) :: σ0) w):RecD P f args.toArray u u' w R:=by
 refine callsDIn_of_wpSIn hf hb trivial fun c₀ cs hu=>?_
 have hk:Kn m σ0 { tmps:=args.toArray++Array.replicate (fn.ntmps-args.toArray.size) undef,defers:=[] }:=by
  refine Kn.sub (σ:=argsK 0 args) ?_ hs;refine ⟨by simp [← hm],rfl,fun t c' v hl=>?_⟩;obtain ⟨rfl,_,h3⟩:=Xua args 0 t c' v hl;refine ⟨fun _=>?_,fun hn=>absurd trivial hn⟩;rw [Nat.sub_zero] at h3;have hlt:t<args.length:=(List.getElem?_eq_some_iff.1 h3).1;simp [Array.getElem?_append,hlt,h3];simpa [hlt] using h3
 generalize ({ tmps:=args.toArray++Array.replicate (fn.ntmps-args.toArray.size) undef,defers:=[] }:Act)=a0 at hk ⊢;have hk1:Kn m ((d0,True,x) :: σ0) (a0.put (some d0) x):=hk.put h0 (fun _=>rfl) fun h=>absurd trivial h;have hk2:Kn m ((d1,True,x)::(d0,True,x) :: σ0) ((a0.put (some d0) x).put (some d1) x):=hk1.put h1 (fun _=>rfl) fun h=>absurd trivial h
 have key:∀ cs',cs' = { c₀ with mode:=u' }::cs→rest.wpSIn Fence.wide (0-1) P (bodyPostS P fn c₀ cs fun e u2 w'=>u2=u'∧∃ v,e = .returned v∧R v w') ((a0.put (some d0) x).put (some d1) x) cs' w:=fun cs' e=>by
  subst e;refine wpSIn_of_wpIn J (wpIn_mono (F:=Fence.wide) (wpIn_wide.2 (hh _ hk2)) fun e a w q=>?_)
  cases e with
  | normal =>
   obtain ⟨hd,v,hr,v',e,hv⟩:=q;exact ⟨hd,_,rfl,v,hr,rfl,v',e,hv⟩
  | ret =>
   obtain ⟨hd,v,hr,v',e,hv⟩:=q;exact ⟨hd,_,rfl,v,hr,rfl,v',e,hv⟩
  | panic ch=>exact q.2.elim
  | _=>exact q.elim
 refine wpSIn_seq (wpSIn_region ?_);have ex:(a0.put (some d0) x).eval (.tmp d0)=x:=Zd (σ:=(d0,True,x) :: σ0) (t:=d0) (by unfold look;rw [Nat.beq_refl];rfl) _ hk1 trivial
 have step2:∀ cs',cs' = { c₀ with mode:=u' }::cs→wpOpsSIn Fence.wide (0-1) P #[⟨some d0,.call { callee:=.builtin .recover,args:=#[],argTypes:=#[] },t0,p0,e0,none⟩,⟨some d1,.assign (.tmp d0),t1,p1,e1,none⟩] (Exit.thenS (rest.wpSIn Fence.wide (0-1) P (bodyPostS P fn c₀ cs fun e u2 w'=>u2=u'∧∃ v,e = .returned v∧R v w')) (bodyPostS P fn c₀ cs fun e u2 w'=>u2=u'∧∃ v,e = .returned v∧R v w')) [1] (a0.put (some d0) x) cs' w:=fun cs' e=>by
  exact Zle (i:=1) rfl rfl (by simp [execOp,ex]) (fun _ _=>trivial) (key cs' e)
 show wpOpsSIn Fence.wide (0-1) P _ _ [0,1] a0 (c₀::cs) w;refine Xpd (i:=0) (w':=w) J J (by simp [execOp,resolve,invoke,builtin]) (fun _ _=>trivial) ?_;rcases hrec c₀ cs hu with hq|⟨hq,hx,hu'⟩;rw [hq];exact step2 _ rfl;rw [hq];subst hx;exact step2 _ (by rw [hu',← hu])
end
def Agr(n:Nat)(ts:List Nat)(a a':Act):Prop:=a.tmps.size=a'.tmps.size∧a'.defers=[]∧∀ t∈ts,a'.tmps[t]? = a.tmps[t]?
theorem Qvf{n:Nat}{ts:List Nat}{a a':Act}{d:Option Tmp}{v:Ga}(h:Agr n ts a a')(hd:∀ k,d=some k→k∉ts):Agr n ts (a.put d v) a':=by
 cases d with
 | none=>exact h
 | some k =>
  refine ⟨by simp [Act.put,h.1],h.2.1,fun t ht=>?_⟩;have hk:k≠t:=fun e=>hd k rfl (by rw [e];exact ht);rw [h.2.2 t ht];simp only [Act.put];rw [Array.getElem?_setIfInBounds_ne hk]
theorem Zme{P:Fa}{n:Nat}{ds:List Deferred}{N T:DPost}{X:List (Nat×DPost)}{Z:List Da→DPost}{σ:List Ent}{w:Aa}{id:Nat}{l:List Oper}(ts:List Nat)(row:RelX)(cl:List Nat)(ms:List Nat)(hm:P.follows .mixedOrders=true)(hok:okT l cl ms=true)(L:List Nat)(hL:List.range l.length=L)
 (hts:(l.all fun o=>match o.dst with|some d=>ts.all fun t=>!Aka d t|none=>true)=true)
 (h:ST P (fun ch a w=>∀ a',Agr n ts a a'→Z ch ds a' w) l cl ms row n (N ds) l.length L σ w.drew):SCD P none n ds (.region id l.toArray true) N X T Z σ w:=fun a ha=>by
 have h1:=h a ha;subst hL;have h2:=RT.wd (Z:=fun ch ds a w=>∀ a',Agr n ts a a'→Z ch ds a' w) (N:=N) ds _ _ a w.drew ha.2.1 h1;have h3:RT P (fun ch=>onD (fun ds a w=>∀ a',Agr n ts a a'→Z ch ds a' w)) l.toArray (clOf cl) (wtOf ms) row (onD N) l.toArray.size (List.range l.toArray.size) (wd ds a) w.drew:=by simpa using h2
 refine Uob (Z:=fun ch=>onD (fun ds a w=>∀ a',Agr n ts a a'→Z ch ds a' w)) (fun ch a d v w ho hz=>?_) (Wnc hok) (fun ch a w h=>h _ ⟨rfl,rfl,fun _ _=>rfl⟩) hm h3;obtain ⟨i,o,hi,rfl⟩:=ho;have hz:∀ a',Agr n ts (wd [] (a.put o.dst v)) a'→Z ch (a.put o.dst v).defers a' w:=hz;rw [Jv,← Uzb] at hz;intro a' ha';refine hz a' (Qvf ha' fun k hk hm=>?_)
 have hmem:o∈l:=by
  rw [List.getElem?_toArray] at hi;exact Aza hi
 have:=Aga.1 hts o hmem;rw [hk] at this;have:=Aga.1 this k hm;simp at this
theorem Jvc{P:Fa}{n:Nat}{ds:List Deferred}{N T:DPost}{X:List (Nat×DPost)}{Z:List Da→DPost}{σ:List Ent}{w:Aa}{c:Code}{α:Type}(I:α→Aa→Prop)(E:Aa→Prop)(σc:List Ent)(σf:α→List Ent)(μ:α→Nat)(x0:α)(h0:I x0 w)(hE:E w)(hs:Sub (σf x0 ++ σc) σ)
 (round:∀ x w,I x w→E w→SCD P none n ds c (fun ds' a' w'=>ds'=ds∧∃ y,Kn n (σf y ++ σc) a'∧I y w'∧E w'∧μ y < μ x) X T Z (σf x ++ σc) w):SCD P none n ds (.loop c) N X T Z σ w:=by
 refine Vme (fun x w=>I x w∧E w) σc σf μ x0 ⟨h0,hE⟩ hs fun x w h=>fun a ha=>wpIn_mono (round x w h.1 h.2 a ha) (fun e a w q=>?_)
 cases e with
 | normal=>obtain ⟨q1,y,q2,q3,q4,q5⟩:=q;exact ⟨q1,y,q2,⟨q3,q4⟩,q5⟩
 | _=>exact q
theorem Agr.kn{n:Nat}{ts:List Nat}{a a':Act}{σ τ:List Ent}(h:Agr n ts a a')(ha:Kn n σ a)(hs:Sub τ σ)(ht:∀ t c v,look τ t=some (c,v)→t∈ts):Kn n τ a' :=
 ⟨h.1.symm.trans ha.1,h.2.1,fun t c v hl=>by rw [h.2.2 t (ht t c v hl)];exact ha.2.2 t c v (hs t c v hl)⟩
theorem Zne{P:Fa}{n:Nat}{σ:List Ent}{c:Prop}{wb:Aa}{ty t xt:Ba}{x:Ea}{u:Ga}(ht:Zhc P t=true)(h:Ev n σ c x (.iface t u)):Rd P n σ c wb (.typeAssert x xt t true) ty (.tuple #[u,.bool true]):=.mk fun d pos after gd a ha hc w1 _=>by
 have hx:=h a ha hc;unfold Zhc at ht;split at ht;cases ht;rename_i τ hτ hu
 have r:(Instr.typeAssert (.iface t u) xt t true).run P w1 = .ok (.tuple #[u,.bool true]) w1:=by
  cases τ <;> first|(exact absurd rfl (hτ _))|simp [Instr.typeAssert,run_underlying hu]
 simp [execOp,hx,r];cases ht
theorem Zoe:Zhc PP 48=true:=KR
theorem Xwf(c₀:Frame)(cs:List Frame)(h:c₀.mode = .returning):recoverD (c₀::cs)=some (.nilIface,{ c₀ with mode:=.returning }::cs)∨(recoverD (c₀::cs)=none∧Value.nilIface = .nilIface∧FrameMode.returning = .returning):=by
 refine .inr ⟨?_,rfl,rfl⟩;simp only [recoverD,h]
theorem Xxf(v:Ga)(c₀:Frame)(cs:List Frame)(h:c₀.mode = .panicking [⟨v,false,false⟩]):recoverD (c₀::cs)=some (v,{ c₀ with mode:=.panicking [⟨v,true,false⟩] }::cs)∨(recoverD (c₀::cs)=none∧v = .nilIface∧FrameMode.panicking [⟨v,true,false⟩] = .panicking [⟨v,false,false⟩]):=by
 refine .inl ?_;simp only [recoverD,h]
theorem Uve{c2 c3 c4:Ga}{w:Aa}:RecD PP 28 #[c2,c3,c4] .returning .returning w fun r w'=>r = .tuple #[]∧G w w':=by
 have g:=G.refl w;refine Ukc (m:=22) (x:=.nilIface) Tryz.func28 J J [(0,True,_),(1,True,_),(2,True,_)] (Za J (Za J (Za J (Zr _)))) J J (Xwf) ?_;refine Zj (Zl (Zv rfl (Zz rfl (fun _=>Qjd Qsb (Zd rfl) (by first|exact .inl rfl|exact .inr ⟨_,_,rfl⟩)) (Ze (kq (Wz rfl (fun h1=>?_) (fun h1=>?_)))))))
 ·exact absurd h1 Od
  done
 refine Yw (Yfa J ?_);exact ⟨rfl,g⟩
theorem Uwe{a e:Int}{bn bi be:Nat}{w:Aa}{u2:Nd}{s2 x y:Ga}(Bn:Blk w bn 26 (ndCells u2 s2))(Bi:Blk w bi 3 [x])(Be:Blk w be 30 [y]) :
 RecD PP 28 #[.pointer (some ⟨bn,0,none⟩),.pointer (some ⟨bi,0,none⟩),.pointer (some ⟨be,0,none⟩)] (.panicking [failE a e]) (.panicking [⟨(failE a e).v,true,false⟩]) w fun r w'=>r = .tuple #[]∧Blk w' bn 26 (ndCells nd0 (.slice none 0 0))∧Blk w' bi 3 [.int .i64 a]∧Blk w' be 30 [.int .i64 e]∧OutG [bn,bi,be] w w':=by
 have hbn:=Bn.lt;have hbi:=Bi.lt;have hbe:=Be.lt;have g:=G.refl w;refine Ukc (m:=22) (x:=(failE a e).v) Tryz.func28 J J [(0,True,_),(1,True,_),(2,True,_)] (Za J (Za J (Za J (Zr _)))) J J (Xxf _) ?_;refine Zj (Zl (Zv rfl (Zz rfl (fun _=>Qjd Qsb (Zd rfl) (by first|exact .inl rfl|exact .inr ⟨_,_,rfl⟩)) (Ze (kq (Wz rfl (fun h1=>?_) (fun h1=>?_)))))))
 ·(try simp only [bsimp] at h1)
  refine Zj ?_;refine Qua [3,0,3,3,3,1,2,3] ?_;refine AU ?_;refine Uz J (Zne Zoe (Zd J)) ?_;refine AM fun _ _ ga _ g E=>?_;have Bn:=Ui Bn;have Bi:=Ui Bi;have Be:=Ui Be;refine AS fun _ ga _ g E=>?_;have Bn:=Bn.keep ga (by intro e;injection e with e;omega);have Bi:=Bi.keep ga (by intro e;injection e with e;omega);have Be:=Be.keep ga (by intro e;injection e with e;omega);refine IF (fun h2=>?_) fun h2=>?_
  ·exact absurd h2 Od
   done
  refine AU ?_;refine Xh (outR [bn,bi,be]) [3,3,0,3,0,1,1,2] [0,0,2,0,8,1,39,127] mix KR [0,1,2,3,4,5,6,7] J ?_;have g:=gdr g;replace E:=E.dr;have Bn:=Bn.grow (G.drew _);have Bi:=Bi.grow (G.drew _);have Be:=Be.grow (G.drew _);have gB:=OutG.of_g (X:=[bn,bi,be]) g;refine Zx 0 J J (fun _=>Uv [_,_,_,_,_,_,_,_,_] Zs J Zta (Vj) J) (Zx 1 J J (fun _=>Zi Uxa (Zd J)) (Yi 2 J J (fun w1 hx=>Zq Yf (Zd J) (fun _=>(E.g0.out hx (by intro hm;simp only [Ada,Ala,or_false] at hm;omega)).at_ J)) (Zx 3 J J (fun _=>Zi Uya (Zd J)) (Yi 4 J J (fun w1 hx=>Zq Yla (Zd J) (fun _=>(E.g0.out hx (by intro hm;simp only [Ada,Ala,or_false] at hm;omega)).at_ J)) (Zt 5 J J ?_)))));refine Zn (L':=[6,7]) [3,3,0,3,0,2,2,2] J J J ?_;refine Xn J Yj (Zd J) (Zd J) J J Bn J J ?_;intro wA hgA hzA BA;have gB:=gB.trans (OutG.of_row hgA Os);replace E:=E.keepT hgA Bn rfl;have Bi:=Bi.keep hgA (Wa (Zia Bi Bn rfl));have Be:=Be.keep hgA (Wa (Zia Be Bn rfl));have Bn:=BA;refine Zy (OutG.of_row hgA Os) ?_;refine Zt 6 J J ?_;refine Zn (L':=[7]) [3,3,0,3,0,2,2,2] J J J ?_;refine Xn J Wta (Zd J) (Zd J) J J Bi J J ?_;intro wB hgB hzB BB;have gB:=gB.trans (OutG.of_row hgB Os);replace E:=E.keepT hgB Bi rfl;have Bn:=Bn.keep hgB (Wa (Zia Bn Bi rfl));have Be:=Be.keep hgB (Wa (Zia Be Bi rfl));have Bi:=BB;refine Zy (OutG.of_row hgB Os) ?_;refine Zt 7 J J ?_;refine Xb (L':=[]) [3,3,0,3,0,2,2,2] J J J J ?_;refine Xn J Vva (Zd J) (Zd J) J J Be J J ?_;intro wC hgC hzC BC;have gB:=gB.trans (OutG.of_row hgC Os);replace E:=E.keepT hgC Be rfl;have Bn:=Bn.keep hgC (Wa (Zia Bn Be rfl));have Bi:=Bi.keep hgC (Wa (Zia Bi Be rfl))
  have Be:=BC;refine Xx ?_;refine TK [] ?_;refine Jg (Yfa J ?_);exact ⟨rfl,Bn,Bi,Be,gB⟩
 exact Ata (show true=false from h1);done
section
variable {P:Fa} {Z:List Da→Act→Aa→Prop} {ops:List Oper} {cl:List Nat} {lv:List Bool} {W0:Aa} {n:Nat} {K:Act→Aa→Prop} {k:Nat} {rest:List Oper} {σ:List Ent} {w:Aa} {d:Nat} {ty:Ba} {pos:String} {after:Array Edge}
theorem Xfc{t q q':Nat}{x y:Ea}{s zv:Ga}{news:List Ga}{b' o' lo:Nat}{X:List Nat}{ks ls:List Nd}(hb:(Aka (clOf cl k) 2&&Nat.blt d n)=true)(ht:tyElem P t=some (26,9,104))(hzv:zeroOf P 26=some zv)
 (hzs:zv.cells.size=9) (hx:Ev n σ True x s) (hO:OwnN X lo w ks s) (hy:Ev n σ True y (.slice (some ⟨b',o',none⟩) q q')) (hq:ls.length=q) (hn:RowAt w b' o' news) (hK:KRow w (fun b=>(Dx lo X b∧NdR w b)∧some b≠s.ownBlock) ls news)
 (hlen:ks.length+ls.length≤10000000) (hbase:lo≤w.heap.size) (hD:Dx lo X w.heap.size)
 (h:∀ a' c' w',OwnN X lo w' (ks++ls) (.slice a' (ks++ls).length c')→w.grownBy w' s.ownBlock→((Ha a' (ks++ls).length c').ownBlock=s.ownBlock∨(Ha a' (ks++ls).length c').ownBlock=some w.heap.size)→SR P Z ops cl lv W0 n K (k+1) rest ((d,True,.slice a' (ks++ls).length c') :: σ) w') :
 SR P Z ops cl lv W0 n K k (⟨some d,.call { callee:=.builtin .append,args:=#[x,y],argTypes:=#[t,t] },ty,pos,after,none⟩::rest) σ w:=by
 obtain ⟨xs,h1,h2,h3⟩:=id hO;subst hq;have ones:=Wtb hK;refine Um hb ht hzv hzs Od hx h1 hy (Woa hK) hn ones (by simp only [maxLen];omega) O hbase fun a' c' w' ho hg hat=>?_;have hlen':(ks++ls).length=ks.length+ls.length:=by simp
 have hnd:∀ b,(Ha a' (ks.length+ls.length) c').ownBlock=some b→NdR w' b:=fun b hb=>by
  rcases ho.2 with ⟨q1,_⟩|⟨g,cap,cur,q1,_,q3,_⟩;rw [q1] at hb;cases hb;rw [q1] at hb;have:g=b:=by injection hb
  subst this;exact ⟨_,_,q3⟩
 have hO':OwnN X lo w' (ks++ls) (.slice a' (ks++ls).length c'):=by
  refine ⟨xs++news,by rw [hlen'];exact ho,?_,?_⟩;rw [hlen'];refine Qc (fun b hb hlt=>⟨⟨hb.1.1,hb.1.2.same (hg.block b hlt hb.2)⟩,?_⟩) (fun b hb hlt=>hg.block b hlt hb.2) _ _ (Wpa h2 hK);rcases hat with he|he <;> rw [he]
  exact hb.2;intro e;injection e with e;omega;rw [hlen'];intro b hb;refine ⟨?_,hnd b hb⟩;rcases hat with he|he <;> rw [he] at hb
  exact (h3 b hb).1;injection hb with hb;exact hb▸hD
 have:=h a' c' w' hO' hg (by rw [hlen'];exact hat);rwa [Aea] at this
end
theorem Jwc{w:Aa}{D:Nat→Prop}{u:Nd}:∀ {ks:List Nd} {xs:List Ga},KRow w D (ks++[u]) xs→KRow w D ks (xs.take (ks.length*9))
 | [],xs,h=>by show KRow w D [] (xs.take 0);rw [List.take_zero];exact Xsb
 | t::ts,xs,h=>by
  obtain ⟨v,r,rfl,h1,h⟩:=h;have k:=Jwc h;refine ⟨v,r.take (ts.length*9),?_,h1,k⟩;have e:(ndCells t v).length=9:=Jj _ _;rw [List.take_append,e,Aoa (by rw [e,List.length_cons];omega),show (t::ts).length*9-9=ts.length*9 by rw [List.length_cons];omega]
theorem OwnN.setl{X:List Nat}{lo:Nat}{w:Aa}{ks:List Nd}{u:Nd}{s:Ga}(h:OwnN X lo w (ks++[u]) s):∃ g c l,s = .slice (some ⟨g,0,none⟩) (ks++[u]).length c∧Blk w g 26 l∧ks.length*9+9≤l.length∧g∉X∧lo≤g∧
 ∀ {w':Aa} {t:Nd} {v:Ga},w.grownBy w' (some g)→Blk w' g 26 (l.take (ks.length*9)++ndCells t v++l.drop (ks.length*9+(ndCells t v).length))→KRow w (fun k=>(Dx lo X k∧NdR w k)∧some k≠s.ownBlock) [t] (ndCells t v)→OwnN X lo w' (ks++[t]) (.slice (some ⟨g,0,none⟩) (ks++[t]).length c):=by
 obtain ⟨xs,ho,hX,hD⟩:=h;have hl1:(ks++[u]).length=ks.length+1:=by simp
 obtain ⟨g,c,l,rfl,hge,hB,hmc,hlen,htk,hre⟩:=Wyb ho O;have hg:=hD g rfl;rw [hl1] at htk hmc;have hfit:ks.length*9+9≤l.length:=by rw [hlen];have:=Nat.mul_le_mul_right 9 hmc;omega
 refine ⟨g,c,l,rfl,hB,hfit,hg.1.2,hg.1.1,fun {w' t v} hw hB' hK=>?_⟩;have hl2:(ks++[t]).length=ks.length+1:=by simp
 have e9:(ndCells t v).length=9:=Jj _ _
 have et:(l.take (ks.length*9)++ndCells t v++l.drop (ks.length*9+(ndCells t v).length)).take ((ks.length+1)*9)=l.take (ks.length*9)++ndCells t v:=by
  rw [List.take_append_of_le_length (by rw [Aea,Aua,e9];omega),Aoa (by rw [Aea,Aua,e9];omega)]
 have el:(l.take (ks.length*9)++ndCells t v++l.drop (ks.length*9+(ndCells t v).length)).length=c*9:=by
  rw [Aea,Aea,Aua,List.length_drop,e9];omega
 have ho':=hre w' _ hB' el;rw [hl1,et] at ho';have hk:=Jwc hX
 have ex:xs.take (ks.length*9)=l.take (ks.length*9):=by
  rw [← htk,List.take_take,show min (ks.length*9) ((ks.length+1)*9)=ks.length*9 by omega]
 rw [ex] at hk;have hg':NdR w' g:=Jl hB';refine ⟨l.take (ks.length*9)++ndCells t v,by rw [hl2];exact ho',?_,fun k hk=>by injection hk with hk;subst hk;exact ⟨hg.1,hg'⟩⟩;refine Qc (fun k hk hlt=>⟨⟨hk.1.1,hk.1.2.same (hw.block k hlt fun e=>hk.2 e)⟩,hk.2⟩) (fun k hk hlt=>hw.block k hlt fun e=>hk.2 e) _ _ (Wpa hk hK)
theorem KdX.app{lo l0:Nat}{X Y:List Nat}{w w':Aa}{ks ks0:List Nd}{v s s':Ga}(h:KdX lo X w ks v)(hO:OwnN Y l0 w ks0 s)(hs:∀ k,s.ownBlock=some k→k∈X∨k<lo)(hg:w.grownBy w' s.ownBlock)(hat:s'.ownBlock=s.ownBlock∨s'.ownBlock=some w.heap.size) :
 KdX lo (w.heap.size::X) w' ks v∧∀ k,s'.ownBlock=some k→k∈w.heap.size::X∨k<lo:=by
 refine ⟨Wp h (fun k hk hlt=>⟨⟨hk.1.1,fun hm=>?_⟩,hk.2.same (hg.block k hlt fun e=>?_)⟩) fun k hk hlt=>hg.block k hlt fun e=>?_,fun k hk=>?_⟩;rcases Ada.1 hm with q|q;omega;exact hk.1.2 q;rcases hs k e.symm with q|q;exact hk.1.2 q;have:=hk.1.1;omega;rcases hs k e.symm with q|q;exact hk.1.2 q;have:=hk.1.1;omega;rcases hat with q|q;rw [q] at hk;exact (hs k hk).imp (Aha _) id;rw [hk] at q;injection q with q;subst q;exact .inl List.mem_cons_self
/-! the declarations of a file -/
section
variable {F n:Nd} {S:CSt}
theorem Qwf(F n:Nd)(S:CSt)(k:Nat):Er S (strA F n S k):=by
 have h:=Xld F n S 0 k;rw [Afa] at h;exact h
theorem Qxf(F n:Nd)(S:CSt):Er S (dclR F n S).2:=by
 unfold dclR;refine Er.if2 (Qwf F n S _) (Er.if2 (Xkd _ (Er.refl _)) (Er.if2 ?_ (Er.refl _)));have h:=Xmd (F:=F) (S:=funS0 S) (Zb n 0) 0 (Zb n 0).kids.length;rw [Afa] at h;have h0:Er S (parA F (Zb n 0) (funS0 S) 0).2:=Er.refl S;exact (h0.trans h).trans Xsf
theorem Ulc(F:Nd)(S:CSt)(i:Nat):∀ k,Er (dclA F S i).2 (dclA F S (i+k)).2
 | 0=>Er.refl _
 | k+1=>(Ulc F S i k).trans (Qxf F _ _)
theorem Ufd(F:Nd)(S:CSt):Er S (mainS F S):=by
 unfold mainS;exact Er.if1 ((Er.refl S).fail _ _) (Er.if1 ((Er.refl S).fail _ _) (Er.refl S))
theorem Jxc(F:Nd)(S:CSt):∀ i,(dclA F S i).1.length=i
 | 0=>rfl
 | i+1=>by
  show ((dclA F S i).1++[_]).length=_;rw [Aea,Jxc F S i];rfl
end
theorem Jxb{F:Nd}(h:∀ j,j<F.kids.length→dupAt F j=false):refS F=mainS F (dclA F rs0 F.kids.length).2∧refA F=annT F (dclA F rs0 F.kids.length).1 ty0:=by
 unfold refS refA;rw [Zje h];exact ⟨rfl,rfl⟩
theorem Xyf{F:Nd}(h:∀ j,j<F.kids.length→dupAt F j=false){i:Nat}(hi:i<F.kids.length):Er (dclR F (Zb F i) (dclA F rs0 i).2).2 (refS F):=by
 rw [(Jxb h).1];have k:=Ulc F rs0 (i+1) (F.kids.length-(i+1));rw [show i+1+(F.kids.length-(i+1))=F.kids.length by omega] at k;have e:(dclA F rs0 (i+1)).2=(dclR F (Zb F i) (dclA F rs0 i).2).2:=rfl;rw [e] at k;exact k.trans (Ufd F _)
theorem Qyf(F:Nd):Er (namA F rs0 F.kids.length) (refS F):=by
 unfold refS;have k:=Ulc F (namA F rs0 F.kids.length) 0 F.kids.length;rw [Afa] at k;have h0:Er (namA F rs0 F.kids.length) (dclA F (namA F rs0 F.kids.length) 0).2:=Er.refl _;exact (h0.trans k).trans (Ufd F _)
theorem Qzf{F:Nd}(hv:validB F=true)(h:(refS F).ee≠0):refCheck F=(nd0,(refS F).ea,(refS F).ee):=by
 unfold refCheck;rw [hv,Wmg h];rfl
theorem Xzf{F:Nd}(hv:validB F=true)(h:(refS F).ee=0):refCheck F=(refA F,0,0):=by
 unfold refCheck;rw [hv,Wng h];rfl
theorem Xre{F:Nd}(hv:validB F=false):refCheck F=(nd0,0,1):=by
 unfold refCheck;rw [hv];rfl
end Go.Rk
