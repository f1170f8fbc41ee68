/- Merged texts. Conditions: each text's own. -/
import Derived.Test.YtmpfjifhkmdbaaaGreatDoorF02
import Derived.Test.YtmpfjifhkmdbaaaGreatDoorF06
import Derived.Test.YtmpfjifhkmdbaaaGreatDoorF03
import Derived.KernelRfl
set_option linter.unusedSimpArgs false
set_option linter.unusedVariables false
set_option maxHeartbeats 16000000
set_option maxRecDepth 100000
open Bool renaming false_or→Ada,and_eq_true→Aea,or_eq_true_iff→Afa,or_false→Aia,and_eq_true_iff→Aka,true_and→Ala
open Go renaming World→Aa,Value→Ba
open Go.Value renaming slice→Da
open List renaming any_cons→Aga,length_drop→Aha,length_take→Aja,any_nil→Ama,length→Ana,mem_cons_of_mem→Aoa,forall_mem_nil→Aqa,mem_cons_self→Ara,getD_eq_getElem?_getD→Ata,getElem?_eq_getElem→Aua,drop_eq_getElem_cons→Ava,length_append→Awa,eq_nil_or_concat→Axa,forall_mem_cons→Aya
open Nat renaming le_refl→Aaa,le_trans→Aba,le_of_eq→Aca,zero_le→Apa,pow_le_pow_right→Asa
namespace Go.Proofs
end Go.Proofs
namespace Go.Rk
open Go.Proofs
open Go Go.RowKit
set_option maxHeartbeats 1000000
section
variable {lo lo' n0 j b:Nat} {X:List Nat} {w w':Aa} {ks:List Nd} {v:Ba}
theorem KdX.gtp(h:KdX lo X w ks v)(g:GT mutP n0 w w'):KdX lo X w' ks v:=Vg h (fun k hk _=>⟨hk.1,hk.2.gt g rfl⟩) fun k hk hlt=>g.block k hlt (.inr (hk.2.ntyr rfl))
end
section
variable {l:List Tok} {sz:Int} {n0 b tc:Nat} {tp:Option Addr} {S:PSt} {w w':Aa}
theorem PR.adv(h:PR l sz n0 b tp tc S w)(hg:w.grownBy w' (some b))(hB:Blk w' b 75 (pkCells l sz tp tc (adv S)))(hi:S.ix<l.length):PR l sz n0 b tp tc (adv S) w':=h.set hg hB hi
theorem PLt.num{T:PSt}(h:PLt l S T)(hS:S.ix≤l.length):remQ l T≤remQ l S∧(remQ l S=0∨remQ l T<remQ l S):=by
 obtain ⟨_,h2,h3⟩:=h hS;cases hb:S.bad;exact ⟨h2,.inr (h3 hb)⟩;exact ⟨h2,.inl (Zmc hb)⟩
theorem PLe.num{T:PSt}(h:PLe l S T)(hS:S.ix≤l.length):remQ l T≤remQ l S:=(h hS).2
theorem Wra(h:S.bad=false):1≤remQ l S:=by rw [Xdb h];omega
theorem Wsa:remQ l S≤l.length+1:=by
 unfold remQ;cases S.bad;show l.length-S.ix+1≤_;omega;exact Apa _
theorem Us{s:List UInt8}(h:isQ l S s=true)(hs:s≠[]):1≤remQ l S:=Wra (Vh h hs).1
end
def PkN(l:List Tok)(sz:Int)(m rk:Nat)(fn:FuncId)(a:List Ba)(X:PSt→Nd×PSt):Prop:=∀ {n0 b tc:Nat} {tp:Option Addr} {S:PSt} {w:Aa},PR l sz n0 b tp tc S w→8*remQ l S+rk<m→
 Ret PP fn (Value.pointer (some ⟨b,0,none⟩)::a).toArray w fun r w'=>RetN (X S).1 w.heap.size r w'∧PR l sz n0 b tp tc (X S).2 w'∧GT mutP n0 w w'
def PkL(l:List Tok)(sz:Int)(m rk:Nat)(fn:FuncId)(a:List Ba)(X:PSt→List Nd×PSt):Prop:=∀ {n0 b tc:Nat} {tp:Option Addr} {S:PSt} {w:Aa},PR l sz n0 b tp tc S w→(S.bad=true∨8*remQ l S+rk<m)→
 Ret PP fn (Value.pointer (some ⟨b,0,none⟩)::a).toArray w fun r w'=>KdN w.heap.size w' (X S).1 r∧PR l sz n0 b tp tc (X S).2 w'∧GT mutP n0 w w'
section
variable {l:List Tok} {sz:Int} {m rk:Nat} {fn:FuncId} {a:List Ba} {n0 b tc:Nat} {tp:Option Addr} {S:PSt} {w:Aa}
theorem PkN.to{X:PSt→Nd×PSt}(H:PkN l sz m rk fn a X){m0:Nat}(Z:List Nat)(h:PR l sz n0 b tp tc S w)(hc:8*remQ l S+rk<m)(hZ:∀ j∈Z,j<w.heap.size)(hm:m0≤w.heap.size) :
 Ret PP fn (Value.pointer (some ⟨b,0,none⟩)::a).toArray w fun r w'=>(∃ p c,r=ndV (X S).1 (.slice p (X S).1.kids.length c)∧m0≤w.heap.size∧KdX w.heap.size Z w' (X S).1.kids (.slice p (X S).1.kids.length c))∧PR l sz n0 b tp tc (X S).2 w'∧GT mutP n0 w w' :=
 (H h hc).mono fun r w' hr=>by
 obtain ⟨⟨p,c,e,k⟩,h1,h2⟩:=hr;exact ⟨⟨p,c,e,hm,KdN.x k hZ⟩,h1,h2⟩
theorem PkL.to{X:PSt→List Nd×PSt}(H:PkL l sz m rk fn a X){m0:Nat}(Z:List Nat)(h:PR l sz n0 b tp tc S w)(hc:S.bad=true∨8*remQ l S+rk<m)(hZ:∀ j∈Z,j<w.heap.size)(hm:m0≤w.heap.size) :
 Ret PP fn (Value.pointer (some ⟨b,0,none⟩)::a).toArray w fun r w'=>(∃ p c,r = .slice p (X S).1.length c∧m0≤w.heap.size∧KdX w.heap.size Z w' (X S).1 (.slice p (X S).1.length c))∧PR l sz n0 b tp tc (X S).2 w'∧GT mutP n0 w w' :=
 (H h hc).mono fun r w' hr=>by
 obtain ⟨k,h1,h2⟩:=hr;obtain ⟨p,c,e,_⟩:=id k;subst e;exact ⟨⟨p,c,rfl,hm,KdN.x k hZ⟩,h1,h2⟩
end
section
variable {l:List Tok} {sz:Int}
theorem Xid:PkN l sz (8*l.length+100) 0 73 [] (typQ l sz):=by
 intro n0 b tc tp S w h _;have hi:=h.hi;have hl:=h.hl;have hlt:=h.lt;have g:=GT.refl mutP n0 w;refine WK 84 [0] Tryz.func73 ?_;refine AM fun _ _ ga _ g E=>?_;have h:=Ui h;refine Ze (kq (Zn (Zu (Zx J (CL (Vt h) ?_)))));rintro _ _ ⟨rfl,ga⟩;refine RC fun g E=>?_;have h:=Uk h;refine Zsa Zp Xt (pqc J (pqc J pq0)) J J (AN fun _ _ ga _ g E=>?_);have h:=Ui h;refine AS fun _ ga Ca g E=>?_;have h:=Uc h;refine AU ?_;refine CL (Vqa 0 O h) ?_;rintro _ _ ⟨rfl,ga⟩;refine RC fun g E=>?_;have h:=Uk h;refine AU ?_;refine' OR [0,2,3,4,10] (fun hb1=>?y1) (kq ?n1)
 case y1 =>
  refine AU ?_;refine' OR [0,2,3,4,10] (fun hb2=>?y2) knr
  case y2 =>
   refine AU ?_;refine' OR [0,2,3,4,10] (fun hb3=>?y3) knr
   case y3 =>
    refine AU ?_;refine' OR [0,2,3,4,10] (fun hb4=>?y4) knr
    case y4 =>
     refine AU ?_;refine' OR [0,2,3,4,10] (fun hb5=>?y5) knr
     case y5 =>
      refine AU ?_;refine' OR [0,2,3,4,10] (fun hb6=>?y6) knr
      case y6 =>
       refine AU ?_;refine SK [13,0,2,3,4,10] ?_;exact Ze knr
 case n1 =>
  refine IF (fun h7=>?_) fun h7=>?_;have e7:inB [[105,110,116],[98,111,111,108],[109,117,116,101,120],[114,119,109,117,116,101,120],[103,114,111,117,112],[111,110,99,101],[97,116,111,109,105,99]] (peekQ l S 0)=true:=by rw [← h7];simp [inB]
  have hadv:=Xbf e7 Od;refine AS fun _ ga Ca g E=>?_;have h:=Uc h;refine AU ?_;refine Yc J Wz (Zc J) (Zc J) J h.B J J ?_;intro wS3 hgS3 _ BS;replace E:=E.keepT hgS3 h.B rfl;have g:=Uw g hgS3 h.B rfl h.hb;have h:=h.adv hgS3 BS (by first|assumption|omega);refine AS fun _ ga Ca g E=>?_;have h:=Uc h;refine RTN ?_;have e:typQ l sz S=(mkN 7 (peekQ l S 0) 0 (offQ l sz S) [],adv S):=by unfold typQ;rw [e7];rfl
  rw [e];exact ⟨Zy (t:=mkN 7 (peekQ l S 0) 0 (offQ l sz S) []) rfl (Vj _ _),h,g⟩;have e7:inB [[105,110,116],[98,111,111,108],[109,117,116,101,120],[114,119,109,117,116,101,120],[103,114,111,117,112],[111,110,99,101],[97,116,111,109,105,99]] (peekQ l S 0)=false:=by rw [← h7];simp [inB]
  refine IF (fun h8=>?_) fun h8=>?_;have e8:isQ l S [42]=true:=h8;have hadv:=(Vh e8 Od).2;refine AU ?_;refine Yc J Wz (Zc J) (Zc J) J h.B J J ?_;intro wS5 hgS5 _ BS;replace E:=E.keepT hgS5 h.B rfl;have g:=Uw g hgS5 h.B rfl h.hb;have h:=h.adv hgS5 BS (by first|assumption|omega);refine AS fun _ ga Ca g E=>?_;have h:=Uc h;refine AU ?_;refine CL (Vra h) ?_;rintro _ _ ⟨rfl,h,ga⟩;refine RC fun g E=>?_;refine AS fun _ ga Ca g E=>?_;have h:=Uc h;refine AS fun _ ga Ca g E=>?_;have h:=Uc h;refine RTN ?_;have e:typQ l sz S=(mkN 8 (nameQ l (adv S)).1 0 (offQ l sz S) [],(nameQ l (adv S)).2):=by unfold typQ;rw [e7,e8];rfl
  rw [e];exact ⟨Zy (t:=mkN 8 (nameQ l (adv S)).1 0 (offQ l sz S) []) rfl (Vj _ _),h,g⟩;have e8:isQ l S [42]=false:=h8;refine IF (fun h9=>?_) fun h9=>?_;have e9:isQ l S [91]=true:=h9;have hadv:=(Vh e9 Od).2;refine AU ?_;refine Yc J Wz (Zc J) (Zc J) J h.B J J ?_;intro wS9 hgS9 _ BS;replace E:=E.keepT hgS9 h.B rfl;have g:=Uw g hgS9 h.B rfl h.hb;have h:=h.adv hgS9 BS (by first|assumption|omega);refine AU ?_;refine CL (Wg [93] Od h) ?_;rintro _ _ ⟨rfl,h,ga⟩;refine RC fun g E=>?_;refine AU ?_;refine CL (Wg [105,110,116] Od h) ?_;rintro _ _ ⟨rfl,h,ga⟩;refine RC fun g E=>?_;refine AS fun _ ga Ca g E=>?_;have h:=Uc h;refine AS fun _ ga Ca g E=>?_;have h:=Uc h;refine RTN ?_;have e:typQ l sz S=(mkN 7 [91,93,105,110,116] 0 (offQ l sz S) [],takeQ l [105,110,116] (takeQ l [93] (adv S))):=by unfold typQ;rw [e7,e8,e9];rfl
  rw [e];exact ⟨Zy (t:=mkN 7 [91,93,105,110,116] 0 (offQ l sz S) []) rfl (Vj _ _),h,g⟩;have e9:isQ l S [91]=false:=h9;refine IF (fun h10=>?_) fun h10=>?_;have e10:isQ l S [99,104,97,110]=true:=h10;have hadv:=(Vh e10 Od).2;refine AU ?_;refine Yc J Wz (Zc J) (Zc J) J h.B J J ?_;intro wS12 hgS12 _ BS;replace E:=E.keepT hgS12 h.B rfl;have g:=Uw g hgS12 h.B rfl h.hb;have h:=h.adv hgS12 BS (by first|assumption|omega);refine AU ?_;refine CL (Wg [105,110,116] Od h) ?_;rintro _ _ ⟨rfl,h,ga⟩;refine RC fun g E=>?_;refine AS fun _ ga Ca g E=>?_;have h:=Uc h;refine AS fun _ ga Ca g E=>?_;have h:=Uc h;refine RTN ?_;have e:typQ l sz S=(mkN 7 [99,104,97,110] 0 (offQ l sz S) [],takeQ l [105,110,116] (adv S)):=by unfold typQ;rw [e7,e8,e9,e10];rfl
  rw [e];exact ⟨Zy (t:=mkN 7 [99,104,97,110] 0 (offQ l sz S) []) rfl (Vj _ _),h,g⟩;have e10:isQ l S [99,104,97,110]=false:=h10;refine IF (fun h11=>?_) fun h11=>?_;have e11:isQ l S [102,117,110,99]=true:=h11;have hadv:=(Vh e11 Od).2;refine AU ?_;refine Yc J Wz (Zc J) (Zc J) J h.B J J ?_;intro wS15 hgS15 _ BS;replace E:=E.keepT hgS15 h.B rfl;have g:=Uw g hgS15 h.B rfl h.hb;have h:=h.adv hgS15 BS (by first|assumption|omega);refine AU ?_;refine CL (Wg [40] Od h) ?_;rintro _ _ ⟨rfl,h,ga⟩;refine RC fun g E=>?_;refine AU ?_;refine CL (Wg [41] Od h) ?_;rintro _ _ ⟨rfl,h,ga⟩;refine RC fun g E=>?_;refine AS fun _ ga Ca g E=>?_;have h:=Uc h;refine AS fun _ ga Ca g E=>?_;have h:=Uc h;refine RTN ?_;have e:typQ l sz S=(mkN 7 [102,117,110,99] 0 (offQ l sz S) [],takeQ l [41] (takeQ l [40] (adv S))):=by unfold typQ;rw [e7,e8,e9,e10,e11];rfl
  rw [e];exact ⟨Zy (t:=mkN 7 [102,117,110,99] 0 (offQ l sz S) []) rfl (Vj _ _),h,g⟩;have e11:isQ l S [102,117,110,99]=false:=h11;refine AU ?_;refine CL (Wqa h) ?_;rintro _ _ ⟨rfl,h,ga⟩;refine RC fun g E=>?_;refine AS fun _ ga Ca g E=>?_;have h:=Uc h;refine RTN ?_;have e:typQ l sz S=(mkN 7 [] 0 (offQ l sz S) [],failQ S):=by unfold typQ;rw [e7,e8,e9,e10,e11];rfl
  rw [e];exact ⟨Zy (t:=mkN 7 [] 0 (offQ l sz S) []) rfl (Vj _ _),h,g⟩
theorem Uzc:PkN l sz (8*l.length+100) 0 70 [] (fieldQ l sz):=by
 intro n0 b tc tp S w h hm;have hi:=h.hi;have hl:=h.hl;have hlt:=h.lt;have hn1:=(Qw (l:=l) S).num hi;have g:=GT.refl mutP n0 w;refine WK 15 [0] Tryz.func70 ?_;refine AM fun b2 _ ga _ g E=>?_;have h:=Ui h;refine Ze (kq (Zn (Zu (Zx J (CL (Vt h) ?_)))));rintro _ _ ⟨rfl,ga⟩;refine RC fun g E=>?_;have h:=Uk h;refine Zsa Zp Xt (pqc J (pqc J pq0)) J J (AN fun b3 _ ga _ g E=>?_);have h:=Ui h;refine AS fun _ ga Ca g E=>?_;have h:=Uc h;refine AU ?_;refine CL (Vra h) ?_;rintro _ _ ⟨rfl,h,ga⟩;refine RC fun g E=>?_;refine AS fun _ ga Ca g E=>?_;have h:=Uc h;refine AU ?_;refine CL (PkN.to (Xid) [b2,b3] h O (E.ltm Ob) g.size) ?_;rintro _ _ ⟨⟨p11,c11,rfl,q11,k11⟩,h,ga⟩;refine RC fun g E=>?_;refine CN fun _ _ ga l12 g E=>?_;have k11:=Uj k11;have h:=Ui h;refine AS fun _ ga Ca g E=>?_;have h:=Uc h;have k11:=Ua k11;refine AS fun _ ga Ca g E=>?_;have h:=Uc h;have k11:=Ua k11;refine RTN ?_;exact ⟨Zy (t:=mkN 3 (nameQ l S).1 0 (offQ l sz S) [_]) rfl (Wi (ks:=[_]) ⟨l12,Xq E.g0⟩ E.g0.row (Ys (k11.kdN q11)) (Aaa _)),h,g⟩
theorem Vle:PkN l sz (8*l.length+100) 0 74 [] (paramsQ l sz):=by
 intro n0 b tc tp S w h hm;have hi:=h.hi;have hl:=h.hl;have hlt:=h.lt;have hm1:=(Wu (l:=l) (s:=[40]) Od S).num hi;have g:=GT.refl mutP n0 w;refine WK 31 [0] Tryz.func74 ?_;refine AM fun b2 _ ga _ g E=>?_;have h:=Ui h;refine Ze (kq (Zn (Zu (Zx J (CL (Vt h) ?_)))));rintro _ _ ⟨rfl,ga⟩;refine RC fun g E=>?_;have h:=Uk h;refine Zsa Zp Xt (pqc J (pqc J pq0)) J J (AN fun b3 _ ga _ g E=>?_);have h:=Ui h;refine AS fun _ ga Ca g E=>?_;have h:=Uc h;refine AU ?_;refine CL (Wg [40] Od h) ?_;rintro _ _ ⟨rfl,h,ga⟩;refine RC fun g E=>?_;refine AU ?_;refine CL (Jt [41] Od h) ?_;rintro _ w10 ⟨rfl,h,ga⟩;refine RC fun g E=>?_;refine IF (fun h1=>?_) fun h1=>?_;have e1:isQ l (takeQ l [40] S) [41]=true:=h1;rw [e1] at h;refine AS fun _ ga Ca g E=>?_;have h:=Uc h;refine RTN ?_;have e:paramsQ l sz S=(mkN 5 [] 0 (offQ l sz S) [],adv (takeQ l [40] S)):=by unfold paramsQ;dsimp only;rw [e1];rfl
 rw [e];exact ⟨Zy (t:=mkN 5 [] 0 (offQ l sz S) []) rfl (Vj _ _),h,g⟩;have e1:isQ l (takeQ l [40] S) [41]=false:=h1;rw [e1] at h;replace h:PR l sz n0 b tp tc (takeQ l [40] S) w10:=h;have hO:OwnN [b2,b3] w.heap.size w10 [] (.slice none 0 0):=Jo _ _ _
 have ef:paramsQ l sz S=(mkN 5 [] 0 (offQ l sz S) (fldL l sz (l.length+1) [(fieldQ l sz (takeQ l [40] S)).1] (fieldQ l sz (takeQ l [40] S)).2).1,takeQ l [41] (fldL l sz (l.length+1) [(fieldQ l sz (takeQ l [40] S)).1] (fieldQ l sz (takeQ l [40] S)).2).2):=by
  unfold paramsQ;dsimp only;rw [e1];rfl
 refine AU ?_;refine Yr (gtP n0) [3,0,3,1,1,2,3,2] [0,1,0,4,12,31,63,127] mix KR [0,1,2,3,4,5,6,7] J ?_;have g:=gtd g;replace E:=E.dr;have h:=h.grow (G.drew _);have hO:=hO.grow (G.drew _);refine Zt 0 J J (fun _=>Zg Zf (Zc J)) (Ye 1 J J (fun w1 hx=>Zw Zi (Zc J) (fun _=>(E.g0.gt hx J).at_ J)) (Zt 2 J J (fun _=>Zm (Zc J)) (Zk 3 J J ?_)));refine Zh (L':=[4,5,6,7]) [3,0,3,2,1,2,3,2] J J J ?_;refine CL (PkN.to (Uzc) [b2,b3] h O (E.ltm Ob) g.size) ?_;rintro v15 w15 ⟨⟨p15,c15,rfl,q15,k15⟩,h,g15⟩;refine ⟨nw1,?_⟩;have g:=g.trans g15;replace E:=E.gt g15 rfl;have hO:=hO.gt g15 rfl;refine Zr (g15) ?_;refine Zk 4 J J ?_;refine Zh (L':=[5,6,7]) [3,0,3,2,1,2,3,2] J J J ?_;refine CN fun _ _ N16 _ g E=>?_;have k15:=k15.new N16;have h:=h.grow (N16.g);have hO:=hO.grow (N16.g);refine Zr (GT.of_g (N16.g)) ?_;refine Zk 5 J J ?_;refine Yb (L':=[6,7]) [3,0,3,2,1,2,3,2] J J J J ?_;have hOo:=hO;refine Uu J Zd Zp J (Zc J) hO (Zc J) J E.g0.row (Vc k15 q15 Oj (fun j hj=>by cases hj)) Os (by have:=g.size;omega) ⟨by have:=g.size;omega,by have q2:=E.g2.lt;have q3:=E.g1.lt;simp;omega⟩ ?_;intro a17 c17 w17 hO hg17;replace E:=E.sel [false,true,true];replace E:=E.keepX hg17 hOo.ne Ob;have g:=Wk g hg17 (fun k hk=>hOo.ge k hk);have h:=h.keepO hg17 hOo;refine Yl ?_;refine Zt 6 J J (fun _=>Zg Zf (Zc J)) (Zk 7 J J ?_);refine Yb (L':=[]) [3,0,3,2,1,2,3,2] J J J J ?_;refine AS fun _ ga Ca g E=>?_;have h:=Uc h;have hO:=Ua hO;refine Yl ?_;refine TK [0,2,3] ?_;refine AU ?_;have hnd1:=E.1
 refine Ul (fun (y:Nat×List Nd×PSt) u1=>match y with|⟨f,acc,T⟩=>(PR l sz n0 b tp tc T u1∧fldL l sz f acc T=fldL l sz (l.length+1) [(fieldQ l sz (takeQ l [40] S)).1] (fieldQ l sz (takeQ l [40] S)).2∧remQ l T≤f∧acc.length+f≤l.length+2∧remQ l T≤remQ l S∧∃ s,Blk u1 b3 26 (ndCells (mkN 5 [] 0 (offQ l sz S) []) s)∧OwnN [b2,b3] w.heap.size u1 acc s)∧GT mutP n0 w u1) _ [(0,True,_),(2,True,_),(3,True,_)] (fun (y:Nat×List Nd×PSt)=>match y with|⟨f,acc,T⟩=>[]) (fun (y:Nat×List Nd×PSt)=>match y with|⟨f,acc,T⟩=>f) ((l.length+1,[(fieldQ l sz (takeQ l [40] S)).1],(fieldQ l sz (takeQ l [40] S)).2)) ⟨⟨h,rfl,by have:=(Wfa (sz:=sz) (takeQ l [40] S)).le.num (Wu (l:=l) (s:=[40]) Od S hi).1;have:=Wsa (S:=S) (l:=l);omega,by simp;omega,by have:=(Wfa (sz:=sz) (takeQ l [40] S)).le.num (Wu (l:=l) (s:=[40]) Od S hi).1;omega,_,E.g0,hO⟩,g⟩ (Ya (blkE E.g1) (Xg _)) (Za J (Za J (Za J (Zo _)))) ?_;clear E;rintro ⟨f,acc,T⟩ u1 ⟨hI1,gl1⟩ ⟨B2,_⟩;replace B2:Blk _ _ _ _:=B2;have g:=gl1;obtain ⟨h,he,hf,hac,hrm,s,B3,hO⟩:=hI1;obtain ⟨sa,sc,rfl⟩:=hO.slice;have E:=Xoa (L:=[(b3,_,_),(b2,_,_)]) hnd1 ⟨B3,B2,trivial⟩ rfl;refine AU ?_;refine CL (Jt [44] Od h) ?_;rintro _ _ ⟨rfl,h,ga⟩;refine RC fun g E=>?_;have hO:=hO.gt ga rfl;refine IF (fun h2=>?_) fun h2=>?_;have e2:isQ l T [44]=true:=h2;rw [e2] at h;have hT:=h.hi;replace h:PR l sz n0 b tp tc (adv T) _:=h;have hr:=Us e2 Od;obtain ⟨f',rfl⟩:∃ f',f=f'+1:=⟨f-1,O⟩;rw [fldL,e2,Wpg] at he;have hn2:=(Xp e2 Od).num (show T.ix≤l.length from Nat.le_of_succ_le hT);have hn3:=(Wfa (sz:=sz) (adv T)).le.num h.hi;have hOlt:=hO.lt
 refine AU ?_;refine Yr (gtP n0) [3,0,3,1,1,2,3,2] [0,1,0,4,12,31,63,127] mix KR [0,1,2,3,4,5,6,7] J ?_;have g:=gtd g;replace E:=E.dr;have h:=h.grow (G.drew _);have hO:=hO.grow (G.drew _);refine Zt 0 J J (fun _=>Zg Zf (Zc J)) (Ye 1 J J (fun w1 hx=>Zw Zi (Zc J) (fun _=>(E.g0.gt hx J).at_ J)) (Zt 2 J J (fun _=>Zm (Zc J)) (Zk 3 J J ?_)));refine Zh (L':=[4,5,6,7]) [3,0,3,2,1,2,3,2] J J J ?_;refine CL (PkN.to (Uzc) [b2,b3] h O (E.ltm Ob) g.size) ?_;rintro v24 w24 ⟨⟨p24,c24,rfl,q24,k24⟩,h,g24⟩;refine ⟨nw1,?_⟩;have g:=g.trans g24;replace E:=E.gt g24 rfl;have hO:=hO.gt g24 rfl;refine Zr (g24) ?_;refine Zk 4 J J ?_;refine Zh (L':=[5,6,7]) [3,0,3,2,1,2,3,2] J J J ?_;refine CN fun _ _ N25 _ g E=>?_;have k24:=k24.new N25;have h:=h.grow (N25.g);have hO:=hO.grow (N25.g);refine Zr (GT.of_g (N25.g)) ?_;refine Zk 5 J J ?_;refine Yb (L':=[6,7]) [3,0,3,2,1,2,3,2] J J J J ?_;have hOo:=hO;refine Uu J Zd Zp J (Zc J) hO (Zc J) J E.g0.row (Vc k24 q24 Oj (fun j hj=>.inr (hOlt j hj))) (by simp;omega) (by have:=g.size;omega) ⟨by have:=g.size;omega,by have q2:=E.g2.lt;have q3:=E.g1.lt;simp;omega⟩ ?_;intro a26 c26 w26 hO hg26;replace E:=E.sel [false,true,true];replace E:=E.keepX hg26 hOo.ne Ob;have g:=Wk g hg26 (fun k hk=>hOo.ge k hk);have h:=h.keepO hg26 hOo;refine Yl ?_;refine Zt 6 J J (fun _=>Zg Zf (Zc J)) (Zk 7 J J ?_);refine Yb (L':=[]) [3,0,3,2,1,2,3,2] J J J J ?_;refine AS fun _ ga Ca g E=>?_;have h:=Uc h;have hO:=Ua hO;refine Yl ?_;refine TK [0,2,3] ?_;refine Qe (fun a ha=>?_)
 exact ⟨(f',acc++[(fieldQ l sz (adv T)).1],(fieldQ l sz (adv T)).2),ha,⟨⟨h,he,O,by simp;omega,O,_,E.g0,hO⟩,g⟩,(Ya (blkE E.g1) (Xg _)),by show f'<f'+1;omega⟩;have e2:isQ l T [44]=false:=h2;rw [e2] at h;replace h:PR l sz n0 b tp tc T _:=h
 have he:(acc,T)=fldL l sz (l.length+1) [(fieldQ l sz (takeQ l [40] S)).1] (fieldQ l sz (takeQ l [40] S)).2:=by
  rw [← he]
  cases f with
  | zero=>rfl
  | succ f'=>rw [fldL,e2];rfl
 refine AU ?_;refine CL (Wg [41] Od h) ?_;rintro _ _ ⟨rfl,h,ga⟩;refine RC fun g E=>?_;have hO:=hO.gt ga rfl;refine AS fun _ ga Ca g E=>?_;have h:=Uc h;have hO:=Ua hO;refine RTN ?_;rw [ef,← he];exact ⟨Zy (t:=mkN 5 [] 0 (offQ l sz S) acc) rfl hO.kd,h,g⟩
end
set_option maxHeartbeats 1000000
structure PzOk (l:List Tok) (sz:Int) (m:Nat) (x:Pz):Prop where
  sts:∀ c,PkL l sz m 6 93 [.bool c] (x.sts c)
  blk:PkN l sz m 0 75 [] x.blk
  ifs:PkN l sz m 4 152 [] x.ifs
  rcv:PkN l sz m 3 167 [] x.rcv
  sim:∀ c,PkN l sz m 4 154 [.bool c] (x.sim c)
  sel:PkN l sz m 0 153 [] x.sel
  st:PkN l sz m 5 126 [] x.st
  ex:∀ k:Nat,k≤10→PkN l sz m 3 150 [.int .i64 (k:Nat)] (x.ex k)
  un:PkN l sz m 2 164 [] x.un
  pri:PkN l sz m 1 151 [] x.pri
  opd:PkN l sz m 0 166 [] x.opd
section
variable {l:List Tok} {sz:Int} {m:Nat} {x:Pz}
theorem Xff{s:List UInt8}{S:PSt}(hb:S.bad=true)(hs:s≠[]):(takeQ l s S).bad=true:=by
 unfold takeQ;cases h:isQ l S s;rfl;have:=(Vh h hs).1;rw [hb] at this;cases this
theorem Qrf{c:Bool}{S:PSt}(h:stsC l c S=true):S.bad=false:=by
 unfold stsC at h;simp only [Aea,Bool.not_eq_true'] at h;exact h.1.1
theorem Ucd(X:PzD l x)(H:PkN l sz m 5 126 [] x.st)(c:Bool):PkL l sz (m+1) 6 93 [.bool c] (stsQ l x c):=by
 intro n0 b tc tp S w h hm;have hi:=h.hi;have hl:=h.hl;have hlt:=h.lt;have g:=GT.refl mutP n0 w;refine WK 48 [0,1] Tryz.func93 ?_;refine AU ?_;refine Ul (fun (y:Nat×List Nd×PSt×Option Addr×Nat) u1=>match y with|⟨f,acc,T,sa,sc⟩=>(PR l sz n0 b tp tc T u1∧stsL l x c f acc T=stsL l x c (l.length+2) [] S∧remQ l T≤f∧acc.length+f≤l.length+2∧remQ l T≤remQ l S∧OwnN [] w.heap.size u1 acc (.slice sa acc.length sc))∧GT mutP n0 w u1) _ [(0,True,_),(1,True,_),(4,True,_)] (fun (y:Nat×List Nd×PSt×Option Addr×Nat)=>match y with|⟨f,acc,T,sa,sc⟩=>[(5,True,.slice sa acc.length sc)]) (fun (y:Nat×List Nd×PSt×Option Addr×Nat)=>match y with|⟨f,acc,T,sa,sc⟩=>f) ((l.length+2,[],S,none,0)) ⟨⟨h,rfl,by have:=Wsa (S:=S) (l:=l);omega,by simp,Aaa _,Jo _ _ _⟩,g⟩ (Xg _) (Za J (Za J (Za J (Za J (Zo _))))) ?_;rintro ⟨f,acc,T,sa,sc⟩ u1 ⟨hI1,gl1⟩ _;have g:=gl1;obtain ⟨h,he,hf,hac,hrm,hO⟩:=hI1;refine AU ?_;refine CG (fun hc=>Wya [125] h) (fun w13 g13=>?_);have g:=gtg g g13;have h:=h.grow (g13);have hO:=hO.grow (g13);refine AU ?_;refine CG (fun hc=>Wya [99,97,115,101] h) (fun w20 g20=>?_);have g:=gtg g g20;have h:=h.grow (g20);have hO:=hO.grow (g20);refine AU ?_;refine CG (fun hc=>Wya [100,101,102,97,117,108,116] h) (fun w23 g23=>?_);have g:=gtg g g23;have h:=h.grow (g23);have hO:=hO.grow (g23);refine IF (fun h1=>?_) fun h1=>?_;replace h1:(stsC l c T)=true:=h1;have hnb:=Qrf h1;have hp:=Wra (l:=l) hnb;obtain ⟨f',rfl⟩:∃ f',f=f'+1:=⟨f-1,O⟩;rw [stsL,h1,Wpg] at he;have hTi:=h.hi;have hn2:=(X.st T).num hTi;have hn3:=(Wlc (l:=l) (x.st T).2).num (X.st T hTi).1;have hOlt:=hO.lt
 have hmb:8*remQ l T+5<m:=by
  rcases hm with hm|hm;rw [Zmc hm] at hrm;omega;omega
 refine AU ?_;refine CL (PkN.to (H) [] h hmb (Aqa _) g.size) ?_;rintro v30 w30 ⟨⟨p30,c30,rfl,q30,k30⟩,h,g30⟩;refine ⟨nw1,?_⟩;have g:=g.trans g30;have hO:=hO.gt g30 rfl;refine CM fun _ _ ga _ g E=>?_;have k30:=Uj k30;have h:=Ui h;have hO:=Ui hO;have hOo:=hO;refine Uu J Zd Zp J (Zc J) hO (Zc J) J E.g0.row (Vc k30 q30 (by intro j hj;cases hj) (fun j hj=>.inr (hOlt j hj))) (by simp;omega) (by have:=g.size;omega) ⟨by have:=g.size;omega,by simp⟩ ?_;intro a32 c32 w32 hO hg32;replace E:=E.sel [false];have g:=Wk g hg32 (fun k hk=>hOo.ge k hk);have h:=h.keepO hg32 hOo;refine AU ?_;refine CL (Yve h) ?_;rintro v34 w34 ⟨rfl,h,g34⟩;refine ⟨nw1,?_⟩;have g:=g.trans g34;have hO:=hO.gt g34 rfl;refine AU ?_;refine Xe [3,3,3,0,3,3,3,0,3,3] [true,true,true,true,true,true,true,true,true,true] [0,1,3,7,0,16,48,112,240,511] mix KR ?_;have g:=gtd g;have h:=h.grow (G.drew _);have hO:=hO.grow (G.drew _);refine IF (fun h2=>?_) fun h2=>?_;have e2:endQ l (x.st T).2=failQ (semiQ l (x.st T).2):=by unfold endQ;rw [h2];rfl
 refine AU ?_;refine CL (Wqa h) ?_;rintro v46 w46 ⟨rfl,h,g46⟩;refine ⟨nw1,?_⟩;have g:=g.trans g46;have hO:=hO.gt g46 rfl;refine SK [5,0,1,4] ?_;refine Ze (fun a ha=>?_);rw [← e2] at h;exact ⟨(f',acc++[(x.st T).1],endQ l (x.st T).2,_,_),ha,⟨⟨h,he,O,by simp;omega,O,hO⟩,g⟩,(Xg _),by show f'<f'+1;omega⟩;have e2:endQ l (x.st T).2=semiQ l (x.st T).2:=by unfold endQ;rw [h2];rfl
 rw [← e2] at h;refine KC [5,0,1,4] ?_;refine Yp (fun a ha=>?_);exact ⟨(f',acc++[(x.st T).1],endQ l (x.st T).2,_,_),ha,⟨⟨h,he,O,by simp;omega,O,hO⟩,g⟩,(Xg _),by show f'<f'+1;omega⟩;replace h1:(stsC l c T)=false:=h1
 have he:(acc,T)=stsQ l x c S:=by
  show _=stsL l x c (l.length+2) [] S;rw [← he]
  cases f with
  | zero=>rfl
  | succ f'=>rw [stsL,h1];rfl
 refine RTN ?_;rw [← he];exact ⟨hO.kd,h,g⟩
theorem Xgf(X:PzD l x)(K:PzOk l sz m x):PkN l sz (m+1) 0 75 [] (blkQ l sz x):=by
 intro n0 b tc tp S w h hm;have hi:=h.hi;have hl:=h.hl;have hlt:=h.lt;have hn:=(Wu (l:=l) (s:=[123]) Od S).num hi
 have hmb:(takeQ l [123] S).bad=true∨8*remQ l (takeQ l [123] S)+6<m:=by
  cases hb:S.bad;have:=Wra (l:=l) hb;exact .inr O;exact .inl (Xff hb Od)
 have g:=GT.refl mutP n0 w;refine WK 15 [0] Tryz.func75 ?_;refine AM fun b2 _ ga _ g E=>?_;have h:=Ui h;refine Ze (kq (Zn (Zu (Zx J (CL (Vt h) ?_)))));rintro _ _ ⟨rfl,ga⟩;refine RC fun g E=>?_;have h:=Uk h;refine Zsa Zp Xt (pqc J (pqc J pq0)) J J (AN fun b3 _ ga _ g E=>?_);have h:=Ui h;refine AS fun _ ga Ca g E=>?_;have h:=Uc h;refine AU ?_;refine CL (Wg [123] Od h) ?_;rintro _ _ ⟨rfl,h,ga⟩;refine RC fun g E=>?_;refine AU ?_;refine CL (PkL.to (K.sts false) [b2,b3] h hmb (E.ltm Ob) g.size) ?_;rintro _ _ ⟨⟨p10,c10,rfl,q10,k10⟩,h,ga⟩;refine RC fun g E=>?_;refine AS fun _ ga Ca g E=>?_;have h:=Uc h;have k10:=Ua k10;refine AU ?_;refine CL (Wg [125] Od h) ?_;rintro _ _ ⟨rfl,h,ga⟩;refine RC fun g E=>?_;have k10:=k10.gtp ga;refine AS fun _ ga Ca g E=>?_;have h:=Uc h;have k10:=Ua k10;refine RTN ?_;exact ⟨Zy (t:=mkN 10 [] 0 (offQ l sz S) _) rfl (k10.kdN q10),h,g⟩
theorem Xbg(X:PzD l x)(K:PzOk l sz m x):PkN l sz (m+1) 4 152 [] (ifsQ l sz x):=by
 intro n0 b tc tp S w h hm;have hi:=h.hi;have hl:=h.hl;have hlt:=h.lt;have q1:=Wu (l:=l) (s:=[105,102]) Od S;have q2:=q1.trans (X.ex 1 _);have q3:=q2.trans (X.blk _);have n1:=q1.num hi;have n2:=q2.num hi;have n3:=q3.num hi;have g:=GT.refl mutP n0 w;refine WK 33 [0] Tryz.func152 ?_;refine AM fun b2 _ ga _ g E=>?_;have h:=Ui h;refine Ze (kq (Zn (Zu (Zx J (CL (Vt h) ?_)))));rintro _ _ ⟨rfl,ga⟩;refine RC fun g E=>?_;have h:=Uk h;refine Zsa Zp Xt (pqc J (pqc J pq0)) J J (AN fun b3 _ ga _ g E=>?_);have h:=Ui h;refine AS fun _ ga Ca g E=>?_;have h:=Uc h;refine AU ?_;refine CL (Wg [105,102] Od h) ?_;rintro _ _ ⟨rfl,h,ga⟩;refine RC fun g E=>?_;refine AU ?_;refine CL (PkN.to (K.ex 1 O) [b2,b3] h O (E.ltm Ob) g.size) ?_;rintro _ _ ⟨⟨p11,c11,rfl,q11,k11⟩,h,ga⟩;refine RC fun g E=>?_;refine AN fun b4 _ ga _ g E=>?_;have k11:=Uj k11;have h:=Ui h;refine AS fun _ ga Ca g E=>?_;have h:=Uc h;have k11:=Ua k11;refine AU ?_;refine Yr (gtP n0) [0,3,1,3,1,3,2] [0,0,2,0,15,31,63] mix KR [0,1,2,3,4,5,6] J ?_;have g:=gtd g;replace E:=E.dr;have h:=h.grow (G.drew _);have k11:=k11.grow (G.drew _);refine Ye 0 J J (fun w1 hx=>Zq Zj (Zc J) J (fun _=>(E.g0.gt hx J).row)) (Zt 1 J J (fun _=>Zm (Zc J)) (Zt 3 J J (fun _=>Uh [_,_,_,_,_,_,_,_,_] Zp J Xt (Xv Xh (Va)) J) (Zk 2 J J ?_)));refine Zh (L':=[4,5,6]) [0,3,2,3,1,3,2] J J J ?_;refine CL (PkN.to (K.blk) [b2,b3,b4] h O (E.ltm Ob) g.size) ?_;rintro v14 w14 ⟨⟨p14,c14,rfl,q14,k14⟩,h,g14⟩;refine ⟨nw1,?_⟩;have g:=g.trans g14;replace E:=E.gt g14 rfl;have k11:=k11.gtp g14;refine Zr (g14) ?_;refine Zk 4 J J ?_
 refine Zh (L':=[5,6]) [0,3,2,3,1,3,2] J J J ?_;refine CN fun b16 _ N16 l16 g E=>?_;have k11:=k11.new N16;have k14:=k14.new N16;have h:=h.grow (N16.g);refine Zr (GT.of_g (N16.g)) ?_;refine Zt 5 J J (fun _=>Zg Zf (Zc J)) (Zk 6 J J ?_);refine Yb (L':=[]) [0,3,2,3,1,3,2] J J J J ?_;refine AS fun _ ga Ca g E=>?_;have h:=Uc h;have k11:=Ua k11;have k14:=Ua k14;refine Yl ?_;refine TK [0,2,3] ?_;refine AU ?_;refine CL (Jt [101,108,115,101] Od h) ?_;rintro _ _ ⟨rfl,h,ga⟩;refine RC fun g E=>?_;have k11:=k11.gtp ga;have k14:=k14.gtp ga;refine IF (fun h1=>?_) fun h1=>?_;have e1:isQ l (x.blk (x.ex 1 (takeQ l [105,102] S)).2).2 [101,108,115,101]=true:=h1;rw [e1] at h;simp only [Wpg] at h;have n4:=(q3.tle (Xp e1 Od).le).num hi;have n5:=Us e1 Od;refine AU ?_;refine CL (Wya [105,102] h) ?_;rintro _ _ ⟨rfl,ga⟩;refine RC fun g E=>?_;have h:=Uk h;have k11:=Uk k11;have k14:=Uk k14;refine IF (fun h2=>?_) fun h2=>?_;have e2:isQ l (adv (x.blk (x.ex 1 (takeQ l [105,102] S)).2).2) [105,102]=true:=h2;refine Yr (gtP n0) [3,0,3,1,3,2] [0,1,0,4,15,31] mix KR [0,1,2,3,4,5] J ?_;have g:=gtd g;replace E:=E.dr;have h:=h.grow (G.drew _);have k11:=k11.grow (G.drew _);have k14:=k14.grow (G.drew _);refine Zt 0 J J (fun _=>Zg Zf (Zc J)) (Ye 1 J J (fun w1 hx=>Zw Zi (Zc J) (fun _=>(E.g2.gt hx J).at_ J)) (Zt 2 J J (fun _=>Zm (Zc J)) (Zk 3 J J ?_)));refine Zh (L':=[4,5]) [3,0,3,2,3,2] J J J ?_;refine CL (PkN.to (K.ifs) [b2,b3,b4,b16] h O (E.ltm Ob) g.size) ?_;rintro v25 w25 ⟨⟨p25,c25,rfl,q25,k25⟩,h,g25⟩;refine ⟨nw1,?_⟩;have g:=g.trans g25;replace E:=E.gt g25 rfl;have k11:=k11.gtp g25;have k14:=k14.gtp g25
 refine Zr (g25) ?_;refine Zt 4 J J (fun _=>Vaa Zd (Zc J) Xh (fun _=>O)) (Zk 5 J J ?_);refine Yb (L':=[]) [3,0,3,2,3,2] J J J J ?_;refine Xo J Xa (Zc J) (Zc J) J J E.g0 J J ?_;intro wS4 hgS4 _ BS;have C16:=E.g0;replace E:=E.s0 hgS4 BS;have g:=Yg g hgS4 O;have h:=h.keep hgS4 C16 rfl rfl;have k11:=k11.keep hgS4 Os;have k14:=k14.keep hgS4 Os;have k25:=k25.keep hgS4 Os;refine Yl ?_;refine TK [2,3] ?_;refine AS fun _ ga Ca g E=>?_;have h:=Uc h;have k11:=Ua k11;have k14:=Ua k14;have k25:=Ua k25;refine RTN ?_;have e:ifsQ l sz x S=(mkN 18 [] 0 (offQ l sz S) [(x.ex 1 (takeQ l [105,102] S)).1,(x.blk (x.ex 1 (takeQ l [105,102] S)).2).1,(x.ifs (adv (x.blk (x.ex 1 (takeQ l [105,102] S)).2).2)).1],(x.ifs (adv (x.blk (x.ex 1 (takeQ l [105,102] S)).2).2)).2):=by unfold ifsQ;dsimp only;rw [e1,e2];rfl
 rw [e];exact ⟨Zy (t:=mkN 18 [] 0 (offQ l sz S) [_,_,_]) rfl (Wi (ks:=[_,_,_]) ⟨l16,Xq E.g0⟩ E.g0.row (Xy (k11.kdN q11) (Xy (k14.kdN q14) (Ys (k25.kdN q25)))) (Aaa _)),h,g⟩;have e2:isQ l (adv (x.blk (x.ex 1 (takeQ l [105,102] S)).2).2) [105,102]=false:=h2;refine Yr (gtP n0) [3,0,3,1,3,2] [0,1,0,4,15,31] mix KR [0,1,2,3,4,5] J ?_;have g:=gtd g;replace E:=E.dr;have h:=h.grow (G.drew _);have k11:=k11.grow (G.drew _);have k14:=k14.grow (G.drew _);refine Zt 0 J J (fun _=>Zg Zf (Zc J)) (Ye 1 J J (fun w1 hx=>Zw Zi (Zc J) (fun _=>(E.g2.gt hx J).at_ J)) (Zt 2 J J (fun _=>Zm (Zc J)) (Zk 3 J J ?_)));refine Zh (L':=[4,5]) [3,0,3,2,3,2] J J J ?_;refine CL (PkN.to (K.blk) [b2,b3,b4,b16] h O (E.ltm Ob) g.size) ?_;rintro v30 w30 ⟨⟨p30,c30,rfl,q30,k30⟩,h,g30⟩;refine ⟨nw1,?_⟩;have g:=g.trans g30;replace E:=E.gt g30 rfl;have k11:=k11.gtp g30;have k14:=k14.gtp g30;refine Zr (g30) ?_;refine Zt 4 J J (fun _=>Vaa Zd (Zc J) Xh (fun _=>O)) (Zk 5 J J ?_);refine Yb (L':=[]) [3,0,3,2,3,2] J J J J ?_;refine Xo J Xa (Zc J) (Zc J) J J E.g0 J J ?_;intro wS6 hgS6 _ BS;have C16:=E.g0;replace E:=E.s0 hgS6 BS;have g:=Yg g hgS6 O;have h:=h.keep hgS6 C16 rfl rfl;have k11:=k11.keep hgS6 Os;have k14:=k14.keep hgS6 Os;have k30:=k30.keep hgS6 Os;refine Yl ?_;refine TK [2,3] ?_;refine AS fun _ ga Ca g E=>?_;have h:=Uc h;have k11:=Ua k11;have k14:=Ua k14;have k30:=Ua k30;refine RTN ?_
 have e:ifsQ l sz x S=(mkN 18 [] 0 (offQ l sz S) [(x.ex 1 (takeQ l [105,102] S)).1,(x.blk (x.ex 1 (takeQ l [105,102] S)).2).1,(x.blk (adv (x.blk (x.ex 1 (takeQ l [105,102] S)).2).2)).1],(x.blk (adv (x.blk (x.ex 1 (takeQ l [105,102] S)).2).2)).2):=by unfold ifsQ;dsimp only;rw [e1,e2];rfl
 rw [e];exact ⟨Zy (t:=mkN 18 [] 0 (offQ l sz S) [_,_,_]) rfl (Wi (ks:=[_,_,_]) ⟨l16,Xq E.g0⟩ E.g0.row (Xy (k11.kdN q11) (Xy (k14.kdN q14) (Ys (k30.kdN q30)))) (Aaa _)),h,g⟩;have e1:isQ l (x.blk (x.ex 1 (takeQ l [105,102] S)).2).2 [101,108,115,101]=false:=h1;rw [e1] at h;simp only [Wog] at h;refine AS fun _ ga Ca g E=>?_;have h:=Uc h;have k11:=Ua k11;have k14:=Ua k14;refine RTN ?_;have e:ifsQ l sz x S=(mkN 18 [] 0 (offQ l sz S) [(x.ex 1 (takeQ l [105,102] S)).1,(x.blk (x.ex 1 (takeQ l [105,102] S)).2).1,nonN],(x.blk (x.ex 1 (takeQ l [105,102] S)).2).2):=by unfold ifsQ;dsimp only;rw [e1];rfl
 rw [e];exact ⟨Zy (t:=mkN 18 [] 0 (offQ l sz S) [_,_,nonN]) rfl (Wi (ks:=[_,_,nonN]) ⟨l16,Xq E.g0⟩ E.g0.row (Xy (k11.kdN q11) (Xy (k14.kdN q14) (Ys (Vj _ _)))) (Aaa _)),h,g⟩
theorem Xcg(X:PzD l x)(K:PzOk l sz m x):PkN l sz (m+1) 3 167 [] (rcvQ l x):=by
 intro n0 b tc tp S w h hm;have hi:=h.hi;have hl:=h.hl;have hlt:=h.lt;have g:=GT.refl mutP n0 w;refine WK 11 [0] Tryz.func167 ?_;refine AM fun b2 _ ga _ g E=>?_;have h:=Ui h;refine AU ?_;refine CL (Wya [60,45] h) ?_;rintro _ _ ⟨rfl,ga⟩;refine RC fun g E=>?_;have h:=Uk h;refine IF (fun h1=>?_) fun h1=>?_;have e1:isQ l S [60,45]=false:=by simpa using h1
 refine AU ?_;refine CL (Wqa h) ?_;rintro _ _ ⟨rfl,h,ga⟩;refine RC fun g E=>?_;refine AS fun _ ga Ca g E=>?_;have h:=Uc h;refine RTN ?_;have e:rcvQ l x S=(nd0,failQ S):=by unfold rcvQ;rw [e1];rfl
 rw [e];exact ⟨Zy (t:=nd0) rfl (Vj _ _),h,g⟩;have e1:isQ l S [60,45]=true:=by simpa using h1
 refine AU ?_;refine CL (PkN.to (K.un) [b2] h O (E.ltm Ob) g.size) ?_;rintro _ _ ⟨⟨p10,c10,rfl,q10,k10⟩,h,ga⟩;refine RC fun g E=>?_;refine AS fun _ ga Ca g E=>?_;have h:=Uc h;have k10:=Ua k10;refine RTN ?_;have e:rcvQ l x S=x.un S:=by unfold rcvQ;rw [e1];rfl
 rw [e];exact ⟨Zy rfl (k10.kdN q10),h,g⟩
theorem Xdg(X:PzD l x)(K:PzOk l sz m x)(comm:Bool):PkN l sz (m+1) 4 154 [.bool comm] (simQ l sz x comm):=by
 intro n0 b tc tp S w h hm;have hi:=h.hi;have hl:=h.hl;have hlt:=h.lt;have q1:=X.ex 1 S;have n1:=q1.num hi;have g:=GT.refl mutP n0 w;refine WK 84 [0,1] Tryz.func154 ?_;refine AM fun b4 _ ga _ g E=>?_;have h:=Ui h;refine AU ?_;refine CL (Vt h) ?_;rintro _ _ ⟨rfl,ga⟩;refine RC fun g E=>?_;have h:=Uk h;refine AU ?_;refine CL (Vvb 1 0 O h) ?_;rintro _ _ ⟨rfl,ga⟩;refine RC fun g E=>?_;have h:=Uk h;refine AU ?_;refine CG (fun hc=>Vqa 1 O h) (fun w16 g16=>?_);have g:=gtg g g16;replace E:=E.grow g16;have h:=h.grow (g16);refine IF (fun h1=>?_) fun h1=>?_;replace h1:(isK l S 1 0&&decide (peekQ l S 1=[58,61]))=true:=h1;have hk1:=(Aka.1 h1).1;have hk2:peekQ l S 1=[58,61]:=Wmg (Aka.1 h1).2;have hk3:=(Veb (S:=S) (k:=1) (by rw [hk2];decide)).2;have hnm:(nameQ l S).2=adv S:=by unfold nameQ;rw [hk1];rfl
 have hadv:(nameQ l S).2.ix<l.length:=by rw [hnm];exact hk3
 have n2:=((Qw S).tle (Zha hadv).le).num hi;have n3:=Wra (l:=l) (Uwc hk1).1;refine Zn (Zu (Zx J (Zx J (CL (Vra h) ?_))));rintro _ _ ⟨rfl,h,ga⟩;refine RC fun g E=>?_;refine Zsa Zp Xt (pqc J (pqc J (pqc J pq0))) J J (AN fun b6 _ ga _ g E=>?_);have h:=Ui h;refine AS fun _ ga Ca g E=>?_;have h:=Uc h;refine AU ?_;refine Yc J Wz (Zc J) (Zc J) J h.B J J ?_;intro wS2 hgS2 _ BS;replace E:=E.keepT hgS2 h.B rfl;have g:=Uw g hgS2 h.B rfl h.hb;have h:=h.adv hgS2 BS (by first|assumption|omega);refine IF (fun h2=>?_) fun h2=>?_;have e2:comm=true:=h2;refine AU ?_;refine CL (PkN.to (K.rcv) [b4,b6] h O (E.ltm Ob) g.size) ?_;rintro _ _ ⟨⟨p32,c32,rfl,q32,k32⟩,h,ga⟩;refine RC fun g E=>?_;refine CN fun _ _ ga l33 g E=>?_;have k32:=Uj k32;have h:=Ui h;refine AS fun _ ga Ca g E=>?_;have h:=Uc h;have k32:=Ua k32;refine AS fun _ ga Ca g E=>?_;have h:=Uc h;have k32:=Ua k32;refine RTN ?_;have e:simQ l sz x comm S=(mkN 11 (nameQ l S).1 0 (offQ l sz S) [(x.rcv (adv (nameQ l S).2)).1],(x.rcv (adv (nameQ l S).2)).2):=by unfold simQ;rw [h1,e2];rfl
 rw [e];exact ⟨Zy (t:=mkN 11 (nameQ l S).1 0 (offQ l sz S) [_]) rfl (Wi (ks:=[_]) ⟨l33,Xq E.g0⟩ E.g0.row (Ys (k32.kdN q32)) (Aaa _)),h,g⟩;have e2:comm=false:=h2;refine AU ?_;refine CL (PkN.to (K.ex 1 O) [b4,b6] h O (E.ltm Ob) g.size) ?_;rintro _ _ ⟨⟨p36,c36,rfl,q36,k36⟩,h,ga⟩;refine RC fun g E=>?_;refine CN fun _ _ ga l37 g E=>?_;have k36:=Uj k36;have h:=Ui h;refine AS fun _ ga Ca g E=>?_;have h:=Uc h;have k36:=Ua k36;refine AS fun _ ga Ca g E=>?_;have h:=Uc h;have k36:=Ua k36;refine RTN ?_;have e:simQ l sz x comm S=(mkN 11 (nameQ l S).1 0 (offQ l sz S) [(x.ex 1 (adv (nameQ l S).2)).1],(x.ex 1 (adv (nameQ l S).2)).2):=by unfold simQ;rw [h1,e2];rfl
 rw [e];exact ⟨Zy (t:=mkN 11 (nameQ l S).1 0 (offQ l sz S) [_]) rfl (Wi (ks:=[_]) ⟨l37,Xq E.g0⟩ E.g0.row (Ys (k36.kdN q36)) (Aaa _)),h,g⟩;replace h1:(isK l S 1 0&&decide (peekQ l S 1=[58,61]))=false:=h1;skip;refine AU ?_;refine CL (PkN.to (K.ex 1 O) [b4] h O (E.ltm Ob) g.size) ?_;rintro _ _ ⟨⟨p41,c41,rfl,q41,k41⟩,h,ga⟩;refine RC fun g E=>?_;refine AN fun b7 _ ga _ g E=>?_;have k41:=Uj k41;have h:=Ui h;refine AS fun _ ga Ca g E=>?_;have h:=Uc h;have k41:=Ua k41;refine AU ?_;refine CL (Vt h) ?_;rintro _ _ ⟨rfl,ga⟩;refine RC fun g E=>?_;have h:=Uk h;have k41:=Uk k41;refine AU ?_;refine CL (Jt [61] Od h) ?_;rintro _ _ ⟨rfl,h,ga⟩;refine RC fun g E=>?_;have k41:=k41.gtp ga;refine IF (fun h3=>?_) fun h3=>?_;have e3:isQ l (x.ex 1 S).2 [61]=true:=h3;rw [e3] at h;simp only [Wpg] at h;have n4:=(q1.tle (Xp e3 Od).le).num hi;have n5:=Us e3 Od;refine AN fun b9 _ ga _ g E=>?_;have k41:=Uj k41;have h:=Ui h;refine AS fun _ ga Ca g E=>?_;have h:=Uc h;have k41:=Ua k41;refine IF (fun h4=>?_) fun h4=>?_;have e4:comm=true:=h4;refine AU ?_;refine CL (PkN.to (K.rcv) [b4,b7,b9] h O (E.ltm Ob) g.size) ?_;rintro _ _ ⟨⟨p50,c50,rfl,q50,k50⟩,h,ga⟩;refine RC fun g E=>?_;have k41:=k41.gtp ga;refine AS fun _ ga Ca g E=>?_;have h:=Uc h;have k41:=Ua k41;have k50:=Ua k50;refine Ze (kq (Zn (Zu (Zx J (Vx Zj J J E.g1.row (Vx Zj J J E.g0.row (CN fun _ _ ga l56 g E=>?_)))))));have k41:=Uj k41;have k50:=Uj k50;have h:=Ui h;refine Zsa Zp Xt (pqc J (pqc J (pqc J pq0))) J J (AS fun _ ga Ca g E=>?_);have h:=Uc h;have k41:=Ua k41;have k50:=Ua k50;refine RTN ?_
 have e:simQ l sz x comm S=(mkN 12 [] 0 (offQ l sz (x.ex 1 S).2) [(x.ex 1 S).1,(x.rcv (adv (x.ex 1 S).2)).1],(x.rcv (adv (x.ex 1 S).2)).2):=by unfold simQ;rw [h1];dsimp only [Wog];rw [e3,e4];rfl
 rw [e];exact ⟨Zy (t:=mkN 12 [] 0 (offQ l sz (x.ex 1 S).2) [_,_]) rfl (Wi (ks:=[_,_]) ⟨l56,Xq E.g0⟩ E.g0.row (Xy (k41.kdN q41) (Ys (k50.kdN q50))) (Aaa _)),h,g⟩;have e4:comm=false:=h4;refine AU ?_;refine CL (PkN.to (K.ex 1 O) [b4,b7,b9] h O (E.ltm Ob) g.size) ?_;rintro _ _ ⟨⟨p52,c52,rfl,q52,k52⟩,h,ga⟩;refine RC fun g E=>?_;have k41:=k41.gtp ga;refine AS fun _ ga Ca g E=>?_;have h:=Uc h;have k41:=Ua k41;have k52:=Ua k52;refine Ze (kq (Zn (Zu (Zx J (Vx Zj J J E.g1.row (Vx Zj J J E.g0.row (CN fun _ _ ga l56 g E=>?_)))))));have k41:=Uj k41;have k52:=Uj k52;have h:=Ui h;refine Zsa Zp Xt (pqc J (pqc J (pqc J pq0))) J J (AS fun _ ga Ca g E=>?_);have h:=Uc h;have k41:=Ua k41;have k52:=Ua k52;refine RTN ?_;have e:simQ l sz x comm S=(mkN 12 [] 0 (offQ l sz (x.ex 1 S).2) [(x.ex 1 S).1,(x.ex 1 (adv (x.ex 1 S).2)).1],(x.ex 1 (adv (x.ex 1 S).2)).2):=by unfold simQ;rw [h1];dsimp only [Wog];rw [e3,e4];rfl
 rw [e];exact ⟨Zy (t:=mkN 12 [] 0 (offQ l sz (x.ex 1 S).2) [_,_]) rfl (Wi (ks:=[_,_]) ⟨l56,Xq E.g0⟩ E.g0.row (Xy (k41.kdN q41) (Ys (k52.kdN q52))) (Aaa _)),h,g⟩;have e3:isQ l (x.ex 1 S).2 [61]=false:=h3;rw [e3] at h;simp only [Wog] at h;refine AU ?_;refine CL (Jt [60,45] Od h) ?_;rintro _ _ ⟨rfl,h,ga⟩;refine RC fun g E=>?_;have k41:=k41.gtp ga;refine IF (fun h5=>?_) fun h5=>?_;have e5:isQ l (x.ex 1 S).2 [60,45]=true:=h5;rw [e5] at h;simp only [Wpg] at h;have n4:=(q1.tle (Xp e5 Od).le).num hi;have n5:=Us e5 Od;refine AU ?_;refine Yr (gtP n0) [3,0,3,1,1,3,2] [0,0,0,4,14,31,63] mix KR [0,1,2,3,4,5,6] J ?_;have g:=gtd g;replace E:=E.dr;have h:=h.grow (G.drew _);have k41:=k41.grow (G.drew _);refine Zt 0 J J (fun _=>Zm (Zc J)) (Ye 1 J J (fun w1 hx=>Zq Zj (Zc J) J (fun _=>(E.g0.gt hx J).row)) (Zt 2 J J (fun _=>Zm (Zc J)) (Zk 3 J J ?_)));refine Zh (L':=[4,5,6]) [3,0,3,2,1,3,2] J J J ?_;refine CL (PkN.to (K.ex 1 O) [b4,b7] h O (E.ltm Ob) g.size) ?_;rintro v64 w64 ⟨⟨p64,c64,rfl,q64,k64⟩,h,g64⟩;refine ⟨nw1,?_⟩;have g:=g.trans g64;replace E:=E.gt g64 rfl;have k41:=k41.gtp g64;refine Zr (g64) ?_;refine Zk 4 J J ?_;refine Zh (L':=[5,6]) [3,0,3,2,1,3,2] J J J ?_;refine CN fun _ _ N65 l65 g E=>?_;have k41:=k41.new N65;have k64:=k64.new N65;have h:=h.grow (N65.g);refine Zr (GT.of_g (N65.g)) ?_;refine Zt 5 J J (fun _=>Uh [_,_,_,_,_,_,_,_,_] Zp J Xt (Xv Xh (Xv (Zc J) (Xv (Zc J) (Va)))) J) (Zk 6 J J ?_);refine Yb (L':=[]) [3,0,3,2,1,3,2] J J J J ?_;refine AS fun _ ga Ca g E=>?_;have h:=Uc h;have k41:=Ua k41;have k64:=Ua k64;refine Yl ?_;refine TK [0,1,4,5,7] ?_
 refine RTN ?_;have e:simQ l sz x comm S=(mkN 16 [] 0 (offQ l sz (x.ex 1 S).2) [(x.ex 1 S).1,(x.ex 1 (adv (x.ex 1 S).2)).1],(x.ex 1 (adv (x.ex 1 S).2)).2):=by unfold simQ;rw [h1];dsimp only [Wog];rw [e3,e5];rfl
 rw [e];exact ⟨Zy (t:=mkN 16 [] 0 (offQ l sz (x.ex 1 S).2) [_,_]) rfl (Wi (ks:=[_,_]) ⟨l65,Xq E.g0⟩ E.g0.row (Xy (k41.kdN q41) (Ys (k64.kdN q64))) (Aaa _)),h,g⟩;have e5:isQ l (x.ex 1 S).2 [60,45]=false:=h5;rw [e5] at h;simp only [Wog] at h;refine IF (fun h6=>?_) fun h6=>?_;replace h6:(!decide ((x.ex 1 S).1.kind=33)&&(comm || !decide ((x.ex 1 S).1.kind=30)))=true:=h6;skip;refine AU ?_;refine CL (Wqa h) ?_;rintro _ _ ⟨rfl,h,ga⟩;refine RC fun g E=>?_;have k41:=k41.gtp ga;refine Ze (kq (Zn (Zu (Zx J (Vx Zj J J E.g0.row (CN fun _ _ ga l82 g E=>?_))))));have k41:=Uj k41;have h:=Ui h;refine Zsa Zp Xt (pqc J (pqc J (pqc J pq0))) J J (AS fun _ ga Ca g E=>?_);have h:=Uc h;have k41:=Ua k41;refine RTN ?_;have e:simQ l sz x comm S=(mkN 13 [] 0 (offQ l sz S) [(x.ex 1 S).1],failQ (x.ex 1 S).2):=by unfold simQ;rw [h1];dsimp only [Wog];rw [e3,e5];dsimp only [Wog];rw [h6];rfl
 rw [e];exact ⟨Zy (t:=mkN 13 [] 0 (offQ l sz S) [_]) rfl (Wi (ks:=[_]) ⟨l82,Xq E.g0⟩ E.g0.row (Ys (k41.kdN q41)) (Aaa _)),h,g⟩;replace h6:(!decide ((x.ex 1 S).1.kind=33)&&(comm || !decide ((x.ex 1 S).1.kind=30)))=false:=h6;skip;refine Yp (kq (Zn (Zu (Zx J (Vx Zj J J E.g0.row (CN fun _ _ ga l82 g E=>?_))))));have k41:=Uj k41;have h:=Ui h;refine Zsa Zp Xt (pqc J (pqc J (pqc J pq0))) J J (AS fun _ ga Ca g E=>?_);have h:=Uc h;have k41:=Ua k41;refine RTN ?_;have e:simQ l sz x comm S=(mkN 13 [] 0 (offQ l sz S) [(x.ex 1 S).1],(x.ex 1 S).2):=by unfold simQ;rw [h1];dsimp only [Wog];rw [e3,e5];dsimp only [Wog];rw [h6];rfl
 rw [e];exact ⟨Zy (t:=mkN 13 [] 0 (offQ l sz S) [_]) rfl (Wi (ks:=[_]) ⟨l82,Xq E.g0⟩ E.g0.row (Ys (k41.kdN q41)) (Aaa _)),h,g⟩
end
set_option maxHeartbeats 2000000
section
variable {l:List Tok} {sz:Int} {m:Nat} {x:Pz}
theorem KdX.lowx{lo lo':Nat}{X Y:List Nat}{w:Aa}{ks:List Nd}{v:Ba}(h:KdX lo X w ks v)(hl:lo'≤lo)(hY:∀ j∈Y,j∈X∨j<lo):KdX lo' Y w ks v:=Kd.mono h fun k hk _=>⟨⟨Aba hl hk.1.1,fun hm=>by
 rcases hY k hm with q|q;exact hk.1.2 q;have:=hk.1.1;omega⟩,hk.2⟩
theorem Vme(s:List UInt8):levelQ s≤5:=by
 unfold levelQ;cases decide (s=[124,124]) <;> cases decide (s=[38,38]) <;> cases inB [[61,61],[33,61],[60],[60,61],[62],[62,61]] s <;> cases inB [[43],[45]] s <;> cases inB [[42],[47],[37]] s <;> decide
theorem ex_ok(X:PzD l x)(K:PzOk l sz m x)(k:Nat)(hk:k≤10):PkN l sz (m+1) 3 150 [.int .i64 (k:Nat)] (exQ l sz x k):=by
 intro n0 b tc tp S w h hm;have hi:=h.hi;have hl:=h.hl;have hlt:=h.lt;have n1:=(X.un S).num hi;have g:=GT.refl mutP n0 w;refine WK 49 [0,1] Tryz.func150 ?_;refine AM fun b4 _ ga _ g E=>?_;have h:=Ui h;refine AU ?_;refine CL (PkN.to (K.un) [b4] h O (E.ltm Ob) g.size) ?_;rintro _ _ ⟨⟨p10,c10,rfl,q10,k10⟩,h,ga⟩;refine RC fun g E=>?_;refine AN fun b5 _ ga _ g E=>?_;have k10:=Uj k10;have h:=Ui h;refine AS fun _ ga Ca g E=>?_;have h:=Uc h;have k10:=Ua k10;refine AU ?_;have hnd1:=E.1;refine Ul (fun (y:Nat×Nd×PSt) u1=>match y with|⟨f,ta,T⟩=>(PR l sz n0 b tp tc T u1∧exL l sz x k f ta T=exQ l sz x k S∧remQ l T≤f∧remQ l T≤remQ l (x.un S).2∧∃ p c,Blk u1 b5 26 (ndCells ta (.slice p ta.kids.length c))∧KdX w.heap.size [b4,b5] u1 ta.kids (.slice p ta.kids.length c))∧GT mutP n0 w u1) _ [(0,True,_),(1,True,_),(4,True,_),(5,True,_)] (fun (y:Nat×Nd×PSt)=>match y with|⟨f,ta,T⟩=>[]) (fun (y:Nat×Nd×PSt)=>match y with|⟨f,ta,T⟩=>f) ((l.length+2,(x.un S).1,(x.un S).2)) ⟨⟨h,rfl,by have:=Wsa (S:=(x.un S).2) (l:=l);omega,Aaa _,_,_,E.g0,KdX.lowx k10 q10 Oj⟩,g⟩ (Ya (blkE E.g1) (Xg _)) (Za J (Za J (Za J (Za J (Zo _))))) ?_;clear E;rintro ⟨f,ta,T⟩ u1 ⟨hI1,gl1⟩ ⟨B4,_⟩;replace B4:Blk _ _ _ _:=B4;have g:=gl1;obtain ⟨h,he,hf,hrm,pa,ca,B5,ka⟩:=hI1;have hTi:=h.hi;have E:=Xoa (L:=[(b5,_,_),(b4,_,_)]) hnd1 ⟨B5,B4,trivial⟩ rfl;refine IF (fun h1=>?_) fun h1=>?_;replace h1:(!T.bad)=true:=h1;have hnb:T.bad=false:=by simpa using h1
 have hp:=Wra (l:=l) hnb;obtain ⟨f',rfl⟩:∃ f',f=f'+1:=⟨f-1,O⟩;rw [exL,h1,Wpg] at he;refine AU ?_;refine CL (Vqa 0 O h) ?_;rintro _ _ ⟨rfl,ga⟩;refine RC fun g E=>?_;have ka:=Uk ka;have h:=Uk h;refine CP (Xef _ _) (fun w18 g18=>?_);have g:=gtg g g18;replace E:=E.grow g18;have ka:=ka.grow (g18);have h:=h.grow (g18);refine IF (fun h2=>?_) fun h2=>?_;replace h2:(exE l k T)=true:=h2;rw [h2,Wpg] at he;refine AS fun _ ga Ca g E=>?_;have ka:=Ua ka;have h:=Uc h;refine RTN ?_;rw [← he];exact ⟨Zy rfl (ka.kdN (Aaa _)),h,g⟩;replace h2:(exE l k T)=false:=h2;rw [h2,Wog] at he;have hadv:=Xcf h2;have hlv:=Vme (peekQ l T 0);have n3:=(Zha hadv).num hTi;have n4:=(X.ex (levelQ (peekQ l T 0)+1) (adv T)).num (show (adv T).ix≤l.length from hadv);refine AU ?_;refine CL (Vqa 0 O h) ?_;rintro _ _ ⟨rfl,ga⟩;refine RC fun g E=>?_;have ka:=Uk ka;have h:=Uk h;refine Zx J (CL (Vt h) ?_);rintro _ _ ⟨rfl,ga⟩;refine RC fun g E=>?_;have ka:=Uk ka;have h:=Uk h;refine Zsa Zp Xt (pqc J (pqc J (pqc J pq0))) J J (AN fun b7 _ ga _ g E=>?_);have ka:=Uj ka;have h:=Ui h;refine AS fun _ ga Ca g E=>?_;have ka:=Ua ka;have h:=Uc h;refine AU ?_;refine Yc J Wz (Zc J) (Zc J) J h.B J J ?_;intro wS4 hgS4 _ BS;replace E:=E.keepT hgS4 h.B rfl;have ka:=ka.keepb hgS4 h.B rfl;have g:=Uw g hgS4 h.B rfl h.hb;have h:=h.adv hgS4 BS (by first|assumption|omega);refine AU ?_;refine CL (PkN.to (K.ex (levelQ (peekQ l T 0)+1) O) [b4,b5,b7] h O (E.ltm Ob) g.size) ?_;rintro _ _ ⟨⟨p42,c42,rfl,q42,k42⟩,h,ga⟩;refine RC fun g E=>?_;have ka:=ka.gtp ga;refine AN fun _ _ ga _ g E=>?_;have ka:=Uj ka;have k42:=Uj k42;have h:=Ui h
 refine AS fun _ ga Ca g E=>?_;have ka:=Ua ka;have h:=Uc h;have k42:=Ua k42;refine CN fun b45 w45 ga l45 g E=>?_;have ka:=Uj ka;have k42:=Uj k42;have h:=Ui h;have x45_8:=E.ne 0 1 rfl rfl rfl;have x45_7:=E.ne 0 2 rfl rfl rfl;have x45_5:=E.ne 0 3 rfl rfl rfl;have x45_4:=E.ne 0 4 rfl rfl rfl
 have kc:KdX w.heap.size [b4,b5,b7] w45 [ta,(x.ex (levelQ (peekQ l T 0)+1) (adv T)).1] (.slice (some ⟨b45,0,none⟩) 2 2):=by
  have kA:Kd w45 (fun k=>(w.heap.size≤k∧k∉[b4,b5,b7])∧NdR w45 k) ta.kids _:=ka.mono fun k hk _=>⟨⟨hk.1.1,by have:=hk.1.2;simp at this ⊢;omega⟩,hk.2⟩;have kB:Kd w45 (fun k=>(w.heap.size≤k∧k∉[b4,b5,b7])∧NdR w45 k) (x.ex (levelQ (peekQ l T 0)+1) (adv T)).1.kids _:=k42.mono fun k hk _=>⟨⟨Aba q42 hk.1.1,by have:=hk.1.2;simp at this ⊢;omega⟩,hk.2⟩;exact Wi (ks:=[_,_]) ⟨⟨l45,by simp;omega⟩,Xq E.g0⟩ E.g0.row (Xy kA (Ys kB)) (Aaa _)
 refine AS fun _ ga Ca g E=>?_;have kc:=Ua kc;have ka:=Ua ka;have h:=Uc h;refine AS fun _ ga Ca g E=>?_;have kc:=Ua kc;have ka:=Ua ka;have h:=Uc h;refine SK [0,1,4,5] ?_;refine Ze (fun a ha=>?_);exact ⟨(f',mkN 32 (peekQ l T 0) 0 (offQ l sz T) [ta,(x.ex (levelQ (peekQ l T 0)+1) (adv T)).1],(x.ex (levelQ (peekQ l T 0)+1) (adv T)).2),ha,⟨⟨h,he,O,O,_,_,E.g3,KdX.lowx (lo:=w.heap.size) kc (Aaa _) Oj⟩,g⟩,(Ya (blkE E.g4) (Xg _)),by show f'<f'+1;omega⟩;replace h1:(!T.bad)=false:=h1
 have he:(ta,T)=exQ l sz x k S:=by
  rw [← he]
  cases f with
  | zero=>rfl
  | succ f'=>rw [exL,h1];rfl
 refine AS fun _ ga Ca g E=>?_;have ka:=Ua ka;have h:=Uc h;refine RTN ?_;rw [← he];exact ⟨Zy rfl (ka.kdN (Aaa _)),h,g⟩
theorem un_ok(X:PzD l x)(K:PzOk l sz m x):PkN l sz (m+1) 2 164 [] (unQ l sz x):=by
 intro n0 b tc tp S w h hm;have hi:=h.hi;have hl:=h.hl;have hlt:=h.lt;have g:=GT.refl mutP n0 w;refine WK 33 [0] Tryz.func164 ?_;refine AM fun b2 _ ga _ g E=>?_;have h:=Ui h;refine AU ?_;refine CL (Vt h) ?_;rintro _ _ ⟨rfl,ga⟩;refine RC fun g E=>?_;have h:=Uk h;refine AN fun b3 _ ga _ g E=>?_;have h:=Ui h;refine AS fun _ ga Ca g E=>?_;have h:=Uc h;refine AU ?_;refine CL (Vqa 0 O h) ?_;rintro _ _ ⟨rfl,ga⟩;refine RC fun g E=>?_;have h:=Uk h;refine AU ?_;refine' OR [0,2,3,8] (fun hb1=>?y1) (kq ?n1)
 case y1 =>
  refine AU ?_;refine SK [11,0,2,3,8] ?_;exact Ze knr
 case n1 =>
  refine IF (fun h2=>?_) fun h2=>?_;replace h2:(isQ l S [45] || isQ l S [33])=true:=h2
  have hadv:S.ix<l.length:=by
   rcases Afa.1 h2 with q|q;exact (Vh q Od).2;exact (Vh q Od).2
  have hp:1≤remQ l S:=by
   rcases Afa.1 h2 with q|q;exact Us q Od;exact Us q Od
  have na:=(Zha hadv).num hi;refine AS fun _ ga Ca g E=>?_;have h:=Uc h;refine AU ?_;refine CL (Vqa 0 O h) ?_;rintro _ _ ⟨rfl,ga⟩;refine RC fun g E=>?_;have h:=Uk h;refine AS fun _ ga Ca g E=>?_;have h:=Uc h;refine AU ?_;refine Yc J Wz (Zc J) (Zc J) J h.B J J ?_;intro wS4 hgS4 _ BS;replace E:=E.keepT hgS4 h.B rfl;have g:=Uw g hgS4 h.B rfl h.hb;have h:=h.adv hgS4 BS (by first|assumption|omega);refine AU ?_;refine CL (PkN.to (K.un) [b2,b3] h O (E.ltm Ob) g.size) ?_;rintro _ _ ⟨⟨p29,c29,rfl,q29,k29⟩,h,ga⟩;refine RC fun g E=>?_;refine CN fun _ _ ga l30 g E=>?_;have k29:=Uj k29;have h:=Ui h;refine AS fun _ ga Ca g E=>?_;have h:=Uc h;have k29:=Ua k29;refine AS fun _ ga Ca g E=>?_;have h:=Uc h;have k29:=Ua k29;refine RTN ?_;have e:unQ l sz x S=(mkN 31 (peekQ l S 0) 0 (offQ l sz S) [(x.un (adv S)).1],(x.un (adv S)).2):=by unfold unQ;rw [h2];rfl
  rw [e];exact ⟨Zy (t:=mkN 31 (peekQ l S 0) 0 (offQ l sz S) [_]) rfl (Wi (ks:=[_]) ⟨l30,Xq E.g0⟩ E.g0.row (Ys (k29.kdN q29)) (Aaa _)),h,g⟩;replace h2:(isQ l S [45] || isQ l S [33])=false:=h2;skip;refine IF (fun h3=>?_) fun h3=>?_;have e3:isQ l S [60,45]=true:=h3;have hadv:=(Vh e3 Od).2;have hp:=Us e3 Od;have na:=(Xp e3 Od).num hi;refine AS fun _ ga Ca g E=>?_;have h:=Uc h;refine AU ?_;refine Yc J Wz (Zc J) (Zc J) J h.B J J ?_;intro wS8 hgS8 _ BS;replace E:=E.keepT hgS8 h.B rfl;have g:=Uw g hgS8 h.B rfl h.hb;have h:=h.adv hgS8 BS (by first|assumption|omega);refine AU ?_;refine CL (PkN.to (K.un) [b2,b3] h O (E.ltm Ob) g.size) ?_;rintro _ _ ⟨⟨p29,c29,rfl,q29,k29⟩,h,ga⟩;refine RC fun g E=>?_;refine CN fun _ _ ga l30 g E=>?_;have k29:=Uj k29;have h:=Ui h;refine AS fun _ ga Ca g E=>?_;have h:=Uc h;have k29:=Ua k29;refine AS fun _ ga Ca g E=>?_;have h:=Uc h;have k29:=Ua k29;refine RTN ?_;have e:unQ l sz x S=(mkN 33 [] 0 (offQ l sz S) [(x.un (adv S)).1],(x.un (adv S)).2):=by unfold unQ;rw [h2,e3];rfl
  rw [e];exact ⟨Zy (t:=mkN 33 [] 0 (offQ l sz S) [_]) rfl (Wi (ks:=[_]) ⟨l30,Xq E.g0⟩ E.g0.row (Ys (k29.kdN q29)) (Aaa _)),h,g⟩;have e3:isQ l S [60,45]=false:=h3;refine AU ?_;refine CL (PkN.to (K.pri) [b2,b3] h O (E.ltm Ob) g.size) ?_;rintro _ _ ⟨⟨p10,c10,rfl,q10,k10⟩,h,ga⟩;refine RC fun g E=>?_;refine AS fun _ ga Ca g E=>?_;have h:=Uc h;have k10:=Ua k10;refine RTN ?_;have e:unQ l sz x S=x.pri S:=by unfold unQ;rw [h2,e3];rfl
  rw [e];exact ⟨Zy rfl (k10.kdN q10),h,g⟩
end
set_option maxHeartbeats 4000000
section
variable {l:List Tok} {sz:Int} {m:Nat} {x:Pz}
theorem Xeg(X:PzD l x)(K:PzOk l sz m x):PkN l sz (m+1) 1 151 [] (priQ l sz x):=by
 intro n0 b tc tp S w h hm;have hi:=h.hi;have hl:=h.hl;have hlt:=h.lt;have n1:=(X.opd S).num hi;have g:=GT.refl mutP n0 w;refine WK 65 [0] Tryz.func151 ?_;refine AM fun b2 _ ga _ g E=>?_;have h:=Ui h;refine AU ?_;refine CL (PkN.to (K.opd) [b2] h O (E.ltm Ob) g.size) ?_;rintro _ _ ⟨⟨p6,c6,rfl,q6,k6⟩,h,ga⟩;refine RC fun g E=>?_;refine AN fun b3 _ ga _ g E=>?_;have k6:=Uj k6;have h:=Ui h;refine AS fun _ ga Ca g E=>?_;have h:=Uc h;have k6:=Ua k6;refine AU ?_;have hnd1:=E.1;refine Ul (fun (y:Nat×Nd×PSt) u1=>match y with|⟨f,ta,T⟩=>(PR l sz n0 b tp tc T u1∧priL l sz x f ta T=priQ l sz x S∧remQ l T≤f∧remQ l T≤remQ l (x.opd S).2∧∃ p c,Blk u1 b3 26 (ndCells ta (.slice p ta.kids.length c))∧KdX w.heap.size [b2,b3] u1 ta.kids (.slice p ta.kids.length c))∧GT mutP n0 w u1) _ [(0,True,_),(2,True,_),(3,True,_)] (fun (y:Nat×Nd×PSt)=>match y with|⟨f,ta,T⟩=>[]) (fun (y:Nat×Nd×PSt)=>match y with|⟨f,ta,T⟩=>f) ((l.length+2,(x.opd S).1,(x.opd S).2)) ⟨⟨h,rfl,by have:=Wsa (S:=(x.opd S).2) (l:=l);omega,Aaa _,_,_,E.g0,KdX.lowx k6 q6 Oj⟩,g⟩ (Ya (blkE E.g1) (Xg _)) (Za J (Za J (Za J (Zo _)))) ?_;clear E;rintro ⟨f,ta,T⟩ u1 ⟨hI1,gl1⟩ ⟨B2,_⟩;replace B2:Blk _ _ _ _:=B2;have g:=gl1;obtain ⟨h,he,hf,hrm,pa,ca,B3,ka⟩:=hI1;have hTi:=h.hi;have E:=Xoa (L:=[(b3,_,_),(b2,_,_)]) hnd1 ⟨B3,B2,trivial⟩ rfl;refine IF (fun h1=>?_) fun h1=>?_
 ·replace h1:(!T.bad)=true:=h1
  have hnb:T.bad=false:=by simpa using h1
  have hp:=Wra (l:=l) hnb;obtain ⟨f',rfl⟩:∃ f',f=f'+1:=⟨f-1,O⟩;rw [priL,h1,Wpg] at he;refine Yp (kq (Yz (?_)));refine Qqf (fun (z:Nat×Nat)=>match z with|⟨b15,b4⟩=>[(0,True,.pointer (some ⟨b,0,none⟩)),(2,True,.pointer (some ⟨b2,0,none⟩)),(3,True,.pointer (some ⟨b3,0,none⟩)),(4,True,.pointer (some ⟨b4,0,none⟩))]) (fun (z:Nat×Nat) u=>match z with|⟨b15,b4⟩=>Obk u [(b4,26,ndCells (mkN 0 [] 0 (offQ l sz T) [ta]) (.slice (some ⟨b15,0,none⟩) 1 1)),(b15,26,ndCells ta (.slice pa ta.kids.length ca)),(b3,26,ndCells ta (.slice pa ta.kids.length ca)),(b2,26,ndCells nd0 (.slice none 0 0))]∧GT mutP n0 w u∧PR l sz n0 b tp tc T u∧KdX w.heap.size [b4,b15,b2,b3] u ta.kids (.slice pa ta.kids.length ca)∧OwnN [b2,b3,b4] w.heap.size u [ta] (.slice (some ⟨b15,0,none⟩) 1 1)∧w.heap.size≤b15∧w.heap.size≤b4) ?_ ?_
  ·refine Yr (rowR none) [3,1,0,1,3,1,2] [0,1,0,4,15,0,63] mix KR [0,1,2,3,4,5,6] rfl ?_
   have g:=gtd g;replace E:=E.dr;have ka:=ka.grow (G.drew _);have h:=h.grow (G.drew _);refine Zt 0 J J (fun _=>Zm (Zc J)) (Ye 2 J J (fun w1 hx=>Zq Zj (Zc J) J (fun _=>(E.g0.keep hx (fun h=>nomatch h)).row)) (Wff 1 3 5 J J ?_ ?_ ?_))
   ·refine Zh (L':=[3,4,5,6]) [3,1,0,1,3,1,2] rfl rfl rfl ?_
    refine CL (Vt h) ?_;rintro v13 w13 ⟨rfl,g13⟩;refine ⟨fun _=>g13,?_⟩;have g:=gtg g g13;replace E:=E.grow g13;have ka:=ka.grow (g13);have h:=h.grow (g13);refine Zr ((g13).only _) ?_;refine Wha 3 5 J J ?_ ?_
    ·refine Zh (L':=[4,5,6]) [3,1,0,1,3,1,2] rfl rfl rfl ?_
     refine CN fun b15 w15 N15 l15 g E=>?_;have ka:=ka.new N15;have h:=h.grow (N15.g);have x15_3:=E.ne 0 1 rfl rfl rfl;have x15_2:=E.ne 0 2 rfl rfl rfl
     first
     | have hN:OwnN [b2,b3,b4] w.heap.size w15 [ta] (.slice (some ⟨b15,0,none⟩) 1 1):=Yea E.g0 l15 (ka.mono fun k hk _=>⟨⟨⟨hk.1.1,by have:=hk.1.2;simp at this ⊢;omega⟩,hk.2⟩,by have:=hk.1.2;simp at this;omega⟩) ⟨⟨l15,by simp;omega⟩,Xq E.g0⟩
     | have hN:OwnN [b2,b3] w.heap.size w15 [ta] (.slice (some ⟨b15,0,none⟩) 1 1):=Yea E.g0 l15 (ka.mono fun k hk _=>⟨⟨⟨hk.1.1,by have:=hk.1.2;simp at this ⊢;omega⟩,hk.2⟩,by have:=hk.1.2;simp at this;omega⟩) ⟨⟨l15,by simp;omega⟩,Xq E.g0⟩
     refine Zr ((N15.g).only _) ?_;refine Zt 4 J J (fun _=>Uh [_,_,_,_,_,_,_,_,_] Zp J Xt (Xv (Zc J) (Xv (Zc J) (Va))) J) (Zk 5 J J ?_);refine Zh (L':=[6]) [3,1,0,1,3,1,2] J J J ?_;refine AN fun b4 _ N4 l4 g E=>?_;have ka:=ka.new N4;have hN:=hN.new N4;have h:=h.grow (N4.g);have x4_15:=E.ne 0 1 rfl rfl rfl;have x4_3:=E.ne 0 2 rfl rfl rfl;have x4_2:=E.ne 0 3 rfl rfl rfl;refine Zr ((N4.g).only _) ?_;refine Zk 6 J J ?_;refine Yb (L':=[]) [3,1,0,1,3,1,2] J J J J ?_;refine AS fun _ ga Ca g E=>?_;have ka:=Ua ka;have h:=Uc h;have hN:=Ua hN;refine Yl ?_;refine TK [0,2,3,4] ?_;refine Qe (fun a ha=>?_);exact ⟨⟨b15,b4⟩,ha,(by first|exact E|exact E.swap),g,h,ka.lowx (Aaa _) Oj,hN.sub Oj,l15,l4⟩
    ·refine Zh (L':=[3,4,6]) [3,1,0,1,3,1,2] rfl rfl rfl ?_
     refine AN fun b4 _ N4 l4 g E=>?_;have ka:=ka.new N4;have h:=h.grow (N4.g);have x4_3:=E.ne 0 1 rfl rfl rfl;have x4_2:=E.ne 0 2 rfl rfl rfl;refine Zr ((N4.g).only _) ?_;refine Zk 3 J J ?_;refine Zh (L':=[4,6]) [3,1,0,1,3,1,2] J J J ?_;refine CN fun b15 w15 N15 l15 g E=>?_;have ka:=ka.new N15;have h:=h.grow (N15.g);have x15_4:=E.ne 0 1 rfl rfl rfl;have x15_3:=E.ne 0 2 rfl rfl rfl;have x15_2:=E.ne 0 3 rfl rfl rfl
     first
     | have hN:OwnN [b2,b3,b4] w.heap.size w15 [ta] (.slice (some ⟨b15,0,none⟩) 1 1):=Yea E.g0 l15 (ka.mono fun k hk _=>⟨⟨⟨hk.1.1,by have:=hk.1.2;simp at this ⊢;omega⟩,hk.2⟩,by have:=hk.1.2;simp at this;omega⟩) ⟨⟨l15,by simp;omega⟩,Xq E.g0⟩
     | have hN:OwnN [b2,b3] w.heap.size w15 [ta] (.slice (some ⟨b15,0,none⟩) 1 1):=Yea E.g0 l15 (ka.mono fun k hk _=>⟨⟨⟨hk.1.1,by have:=hk.1.2;simp at this ⊢;omega⟩,hk.2⟩,by have:=hk.1.2;simp at this;omega⟩) ⟨⟨l15,by simp;omega⟩,Xq E.g0⟩
     refine Zr ((N15.g).only _) ?_;refine Zt 4 J J (fun _=>Uh [_,_,_,_,_,_,_,_,_] Zp J Xt (Xv (Zc J) (Xv (Zc J) (Va))) J) (Zk 6 J J ?_);refine Yb (L':=[]) [3,1,0,1,3,1,2] J J J J ?_;refine AS fun _ ga Ca g E=>?_;have ka:=Ua ka;have h:=Uc h;have hN:=Ua hN;refine Yl ?_;refine TK [0,2,3,4] ?_;refine Qe (fun a ha=>?_);exact ⟨⟨b15,b4⟩,ha,(by first|exact E|exact E.swap),g,h,ka.lowx (Aaa _) Oj,hN.sub Oj,l15,l4⟩
   ·refine Zh (L':=[1,4,5,6]) [3,1,0,1,3,1,2] rfl rfl rfl ?_
    refine CN fun b15 w15 N15 l15 g E=>?_;have ka:=ka.new N15;have h:=h.grow (N15.g);have x15_3:=E.ne 0 1 rfl rfl rfl;have x15_2:=E.ne 0 2 rfl rfl rfl
    first
    | have hN:OwnN [b2,b3,b4] w.heap.size w15 [ta] (.slice (some ⟨b15,0,none⟩) 1 1):=Yea E.g0 l15 (ka.mono fun k hk _=>⟨⟨⟨hk.1.1,by have:=hk.1.2;simp at this ⊢;omega⟩,hk.2⟩,by have:=hk.1.2;simp at this;omega⟩) ⟨⟨l15,by simp;omega⟩,Xq E.g0⟩
    | have hN:OwnN [b2,b3] w.heap.size w15 [ta] (.slice (some ⟨b15,0,none⟩) 1 1):=Yea E.g0 l15 (ka.mono fun k hk _=>⟨⟨⟨hk.1.1,by have:=hk.1.2;simp at this ⊢;omega⟩,hk.2⟩,by have:=hk.1.2;simp at this;omega⟩) ⟨⟨l15,by simp;omega⟩,Xq E.g0⟩
    refine Zr ((N15.g).only _) ?_;refine Wha 1 5 J J ?_ ?_
    ·refine Zh (L':=[4,5,6]) [3,1,0,1,3,1,2] rfl rfl rfl ?_
     refine CL (Vt h) ?_;rintro v13 w13 ⟨rfl,g13⟩;refine ⟨fun _=>g13,?_⟩;have g:=gtg g g13;replace E:=E.grow g13;have ka:=ka.grow (g13);have h:=h.grow (g13);have hN:=hN.grow (g13);refine Zr ((g13).only _) ?_;refine Zt 4 J J (fun _=>Uh [_,_,_,_,_,_,_,_,_] Zp J Xt (Xv (Zc J) (Xv (Zc J) (Va))) J) (Zk 5 J J ?_);refine Zh (L':=[6]) [3,1,0,1,3,1,2] J J J ?_;refine AN fun b4 _ N4 l4 g E=>?_;have ka:=ka.new N4;have hN:=hN.new N4;have h:=h.grow (N4.g);have x4_15:=E.ne 0 1 rfl rfl rfl;have x4_3:=E.ne 0 2 rfl rfl rfl;have x4_2:=E.ne 0 3 rfl rfl rfl;refine Zr ((N4.g).only _) ?_;refine Zk 6 J J ?_;refine Yb (L':=[]) [3,1,0,1,3,1,2] J J J J ?_;refine AS fun _ ga Ca g E=>?_;have ka:=Ua ka;have h:=Uc h;have hN:=Ua hN;refine Yl ?_;refine TK [0,2,3,4] ?_;refine Qe (fun a ha=>?_);exact ⟨⟨b15,b4⟩,ha,(by first|exact E|exact E.swap),g,h,ka.lowx (Aaa _) Oj,hN.sub Oj,l15,l4⟩
    ·refine Zh (L':=[1,4,6]) [3,1,0,1,3,1,2] rfl rfl rfl ?_
     refine AN fun b4 _ N4 l4 g E=>?_;have ka:=ka.new N4;have hN:=hN.new N4;have h:=h.grow (N4.g);have x4_15:=E.ne 0 1 rfl rfl rfl;have x4_3:=E.ne 0 2 rfl rfl rfl;have x4_2:=E.ne 0 3 rfl rfl rfl;refine Zr ((N4.g).only _) ?_;refine Zk 1 J J ?_;refine Zh (L':=[4,6]) [3,1,0,1,3,1,2] J J J ?_;refine CL (Vt h) ?_;rintro v13 w13 ⟨rfl,g13⟩;refine ⟨fun _=>g13,?_⟩;have g:=gtg g g13;replace E:=E.grow g13;have ka:=ka.grow (g13);have h:=h.grow (g13);have hN:=hN.grow (g13);refine Zr ((g13).only _) ?_;refine Zt 4 J J (fun _=>Uh [_,_,_,_,_,_,_,_,_] Zp J Xt (Xv (Zc J) (Xv (Zc J) (Va))) J) (Zk 6 J J ?_);refine Yb (L':=[]) [3,1,0,1,3,1,2] J J J J ?_;refine AS fun _ ga Ca g E=>?_;have ka:=Ua ka;have h:=Uc h;have hN:=Ua hN;refine Yl ?_;refine TK [0,2,3,4] ?_;refine Qe (fun a ha=>?_);exact ⟨⟨b15,b4⟩,ha,(by first|exact E|exact E.swap),g,h,ka.lowx (Aaa _) Oj,hN.sub Oj,l15,l4⟩
   ·refine Zh (L':=[1,3,4,6]) [3,1,0,1,3,1,2] rfl rfl rfl ?_
    refine AN fun b4 _ N4 l4 g E=>?_;have ka:=ka.new N4;have h:=h.grow (N4.g);have x4_3:=E.ne 0 1 rfl rfl rfl;have x4_2:=E.ne 0 2 rfl rfl rfl;refine Zr ((N4.g).only _) ?_;refine Wha 1 3 J J ?_ ?_
    ·refine Zh (L':=[3,4,6]) [3,1,0,1,3,1,2] rfl rfl rfl ?_
     refine CL (Vt h) ?_;rintro v13 w13 ⟨rfl,g13⟩;refine ⟨fun _=>g13,?_⟩;have g:=gtg g g13;replace E:=E.grow g13;have ka:=ka.grow (g13);have h:=h.grow (g13);refine Zr ((g13).only _) ?_;refine Zk 3 J J ?_;refine Zh (L':=[4,6]) [3,1,0,1,3,1,2] J J J ?_;refine CN fun b15 w15 N15 l15 g E=>?_;have ka:=ka.new N15;have h:=h.grow (N15.g);have x15_4:=E.ne 0 1 rfl rfl rfl;have x15_3:=E.ne 0 2 rfl rfl rfl;have x15_2:=E.ne 0 3 rfl rfl rfl
     first
     | have hN:OwnN [b2,b3,b4] w.heap.size w15 [ta] (.slice (some ⟨b15,0,none⟩) 1 1):=Yea E.g0 l15 (ka.mono fun k hk _=>⟨⟨⟨hk.1.1,by have:=hk.1.2;simp at this ⊢;omega⟩,hk.2⟩,by have:=hk.1.2;simp at this;omega⟩) ⟨⟨l15,by simp;omega⟩,Xq E.g0⟩
     | have hN:OwnN [b2,b3] w.heap.size w15 [ta] (.slice (some ⟨b15,0,none⟩) 1 1):=Yea E.g0 l15 (ka.mono fun k hk _=>⟨⟨⟨hk.1.1,by have:=hk.1.2;simp at this ⊢;omega⟩,hk.2⟩,by have:=hk.1.2;simp at this;omega⟩) ⟨⟨l15,by simp;omega⟩,Xq E.g0⟩
     refine Zr ((N15.g).only _) ?_;refine Zt 4 J J (fun _=>Uh [_,_,_,_,_,_,_,_,_] Zp J Xt (Xv (Zc J) (Xv (Zc J) (Va))) J) (Zk 6 J J ?_);refine Yb (L':=[]) [3,1,0,1,3,1,2] J J J J ?_;refine AS fun _ ga Ca g E=>?_;have ka:=Ua ka;have h:=Uc h;have hN:=Ua hN;refine Yl ?_;refine TK [0,2,3,4] ?_;refine Qe (fun a ha=>?_);exact ⟨⟨b15,b4⟩,ha,(by first|exact E|exact E.swap),g,h,ka.lowx (Aaa _) Oj,hN.sub Oj,l15,l4⟩
    ·refine Zh (L':=[1,4,6]) [3,1,0,1,3,1,2] rfl rfl rfl ?_
     refine CN fun b15 w15 N15 l15 g E=>?_;have ka:=ka.new N15;have h:=h.grow (N15.g);have x15_4:=E.ne 0 1 rfl rfl rfl;have x15_3:=E.ne 0 2 rfl rfl rfl;have x15_2:=E.ne 0 3 rfl rfl rfl
     first
     | have hN:OwnN [b2,b3,b4] w.heap.size w15 [ta] (.slice (some ⟨b15,0,none⟩) 1 1):=Yea E.g0 l15 (ka.mono fun k hk _=>⟨⟨⟨hk.1.1,by have:=hk.1.2;simp at this ⊢;omega⟩,hk.2⟩,by have:=hk.1.2;simp at this;omega⟩) ⟨⟨l15,by simp;omega⟩,Xq E.g0⟩
     | have hN:OwnN [b2,b3] w.heap.size w15 [ta] (.slice (some ⟨b15,0,none⟩) 1 1):=Yea E.g0 l15 (ka.mono fun k hk _=>⟨⟨⟨hk.1.1,by have:=hk.1.2;simp at this ⊢;omega⟩,hk.2⟩,by have:=hk.1.2;simp at this;omega⟩) ⟨⟨l15,by simp;omega⟩,Xq E.g0⟩
     refine Zr ((N15.g).only _) ?_;refine Zk 1 J J ?_;refine Zh (L':=[4,6]) [3,1,0,1,3,1,2] J J J ?_;refine CL (Vt h) ?_;rintro v13 w13 ⟨rfl,g13⟩;refine ⟨fun _=>g13,?_⟩;have g:=gtg g g13;replace E:=E.grow g13;have ka:=ka.grow (g13);have h:=h.grow (g13);have hN:=hN.grow (g13);refine Zr ((g13).only _) ?_;refine Zt 4 J J (fun _=>Uh [_,_,_,_,_,_,_,_,_] Zp J Xt (Xv (Zc J) (Xv (Zc J) (Va))) J) (Zk 6 J J ?_);refine Yb (L':=[]) [3,1,0,1,3,1,2] J J J J ?_;refine AS fun _ ga Ca g E=>?_;have ka:=Ua ka;have h:=Uc h;have hN:=Ua hN;refine Yl ?_;refine TK [0,2,3,4] ?_;refine Qe (fun a ha=>?_);exact ⟨⟨b15,b4⟩,ha,(by first|exact E|exact E.swap),g,h,ka.lowx (Aaa _) Oj,hN.sub Oj,l15,l4⟩
  ·rintro ⟨b15,b4⟩ wj3 ⟨E,g,h,ka,hN,l15,l4⟩
   have u1:=E.ne 1 2 rfl rfl rfl;have u2:=E.ne 1 3 rfl rfl rfl;have u3:=E.ne 0 1 rfl rfl rfl;have u4:=E.ne 0 2 rfl rfl rfl;have u5:=E.ne 0 3 rfl rfl rfl;refine AU ?_;refine CL (Jt [46] Od h) ?_;rintro _ _ ⟨rfl,h,ga⟩;refine RC fun g E=>?_;have ka:=ka.gtp ga;have hN:=hN.gt ga rfl;refine IF (fun h2=>?_) fun h2=>?_
   ·have e2:isQ l T [46]=true:=h2
    rw [e2] at h he;simp only [Wpg] at h he;have n3:=(Xp e2 Od).num hTi;have hTa:=(Xp e2 Od hTi).1;refine AS fun _ ga Ca g E=>?_;have ka:=Ua ka;have h:=Uc h;have hN:=Ua hN;refine AU ?_;refine CL (Vra h) ?_;rintro _ _ ⟨rfl,h,ga⟩;refine RC fun g E=>?_;have ka:=ka.gtp ga;have hN:=hN.gt ga rfl;refine AS fun _ ga Ca g E=>?_;have ka:=Ua ka;have h:=Uc h;have hN:=Ua hN;refine AS fun _ ga Ca g E=>?_;have ka:=Ua ka;have h:=Uc h;have hN:=Ua hN;refine SK [0,2,3] ?_;refine Ze (fun a ha=>?_);have n9:=(Vud (l:=l) (adv T)).num hTa;have kN:KdX w.heap.size [b2,b3] _ _ _:=OwnK.kd (hN.sub (Y:=[b2,b3]) Oj) fun b hb=>hb;exact ⟨(f',mkN 28 (nameQ l (adv T)).1 0 (offQ l sz T) [ta],(nameQ l (adv T)).2),ha,⟨⟨h,he,O,O,_,_,E.g2,kN⟩,g⟩,(Ya (blkE E.g3) (Xg _)),by show f'<f'+1;omega⟩
   have e2:isQ l T [46]=false:=h2;rw [e2] at h he;simp only [Wog] at h he;refine AU ?_;refine CL (Jt [91] Od h) ?_;rintro _ _ ⟨rfl,h,ga⟩;refine RC fun g E=>?_;have ka:=ka.gtp ga;have hN:=hN.gt ga rfl;refine IF (fun h3=>?_) fun h3=>?_
   ·have e3:isQ l T [91]=true:=h3
    rw [e3] at h he;simp only [Wpg] at h he;have n4:=(Xp e3 Od).num hTi;have hTa:=(Xp e3 Od hTi).1;refine AS fun _ ga Ca g E=>?_;have ka:=Ua ka;have h:=Uc h;have hN:=Ua hN;refine AU ?_;refine Yr (gtP n0) [3,0,3,1,1,2,3,2] [0,1,0,4,12,31,63,127] mix KR [0,1,2,3,4,5,6,7] J ?_;have g:=gtd g;replace E:=E.dr;have ka:=ka.grow (G.drew _);have h:=h.grow (G.drew _);have hN:=hN.grow (G.drew _);refine Zt 0 J J (fun _=>Zg Zf (Zc J)) (Ye 1 J J (fun w1 hx=>Zw Zi (Zc J) (fun _=>(E.g0.gt hx J).at_ J)) (Zt 2 J J (fun _=>Zm (Zc J)) (Zk 3 J J ?_)));refine Zh (L':=[4,5,6,7]) [3,0,3,2,1,2,3,2] J J J ?_;refine CL (PkN.to (K.ex 1 O) [b2,b3,b4,b15] h O (E.ltm Ob) g.size) ?_;rintro v32 w32 ⟨⟨p32,c32,rfl,q32,k32⟩,h,g32⟩;refine ⟨nw1,?_⟩;have g:=g.trans g32;replace E:=E.gt g32 rfl;have ka:=ka.gtp g32;have hN:=hN.gt g32 rfl;refine Zr (g32) ?_;refine Zk 4 J J ?_;refine Zh (L':=[5,6,7]) [3,0,3,2,1,2,3,2] J J J ?_;refine CN fun _ _ N33 _ g E=>?_;have ka:=ka.new N33;have k32:=k32.new N33;have hN:=hN.new N33;have h:=h.grow (N33.g);have x33_15:=E.ne 0 2 rfl rfl rfl;refine Zr (GT.of_g (N33.g)) ?_;refine Zk 5 J J ?_;refine Yb (L':=[6,7]) [3,0,3,2,1,2,3,2] J J J J ?_;have hN:=hN.sub (Y:=[b2,b3,b4]) Oj;have hOo:=hN;refine Uu J Zd Zp J (Zc J) hN (Zc J) J E.g0.row (Vc k32 q32 Oj (fun j hj=>by obtain rfl:b15=j:=(by injection hj);simp)) Os (by have:=g.size;omega) ⟨by have:=g.size;omega,by have q2:=E.g4.lt;have q3:=E.g3.lt;have q4:=E.g1.lt;simp;omega⟩ ?_;intro a34 c34 w34 hN hg34;replace E:=E.sel [false,true,false,true,true]
    replace E:=E.keepX hg34 hOo.ne Ob;have g:=Wk g hg34 (fun k hk=>hOo.ge k hk);have h:=h.keepO hg34 hOo;refine Yl ?_;refine Zt 6 J J (fun _=>Zg Zf (Zc J)) (Zk 7 J J ?_);refine Yb (L':=[]) [3,0,3,2,1,2,3,2] J J J J ?_;refine AS fun _ ga Ca g E=>?_;have h:=Uc h;have hN:=Ua hN;refine Yl ?_;refine TK [0,2,3,4] ?_;refine AU ?_;refine CL (Wg [93] Od h) ?_;rintro _ _ ⟨rfl,h,ga⟩;refine RC fun g E=>?_;have hN:=hN.gt ga rfl;refine AS fun _ ga Ca g E=>?_;have h:=Uc h;have hN:=Ua hN;refine SK [0,2,3] ?_;refine Ze (fun a ha=>?_);have n9:=(X.ex 1 (adv T)).le.num hTa;have n10:=(Um (l:=l) (s:=[93]) Od (x.ex 1 (adv T)).2).num (X.ex 1 (adv T) hTa).1;have kN:KdX w.heap.size [b2,b3] _ _ _:=OwnK.kd (hN.sub (Y:=[b2,b3]) Oj) fun b hb=>hb;exact ⟨(f',mkN 29 [] 0 (offQ l sz T) [ta,(x.ex 1 (adv T)).1],takeQ l [93] (x.ex 1 (adv T)).2),ha,⟨⟨h,he,O,O,_,_,E.g1,kN⟩,g⟩,(Ya (blkE E.g2) (Xg _)),by show f'<f'+1;omega⟩
   have e3:isQ l T [91]=false:=h3;rw [e3] at h he;simp only [Wog] at h he;refine AU ?_;refine CL (Jt [40] Od h) ?_;rintro _ _ ⟨rfl,h,ga⟩;refine RC fun g E=>?_;have ka:=ka.gtp ga;have hN:=hN.gt ga rfl;refine IF (fun h4=>?_) fun h4=>?_
   ·have e4:isQ l T [40]=true:=h4
    rw [e4] at h he;simp only [Wpg] at h he;have n5:=(Xp e4 Od).num hTi;have hTa:=(Xp e4 Od hTi).1;refine AS fun _ ga Ca g E=>?_;have ka:=Ua ka;have h:=Uc h;have hN:=Ua hN;refine AU ?_;refine CL (Wya [41] h) ?_;rintro _ _ ⟨rfl,ga⟩;refine RC fun g E=>?_;have ka:=Uk ka;have h:=Uk h;have hN:=Uk hN;refine IF (fun h5=>?_) fun h5=>?_
    ·have e5:isQ l (adv T) [41]=false:=by simpa using h5
     refine AU ?_;refine Yr (gtP n0) [3,0,3,1,1,2,3,2] [0,1,0,4,12,31,63,127] mix KR [0,1,2,3,4,5,6,7] J ?_;have g:=gtd g;replace E:=E.dr;have ka:=ka.grow (G.drew _);have h:=h.grow (G.drew _);have hN:=hN.grow (G.drew _);refine Zt 0 J J (fun _=>Zg Zf (Zc J)) (Ye 1 J J (fun w1 hx=>Zw Zi (Zc J) (fun _=>(E.g0.gt hx J).at_ J)) (Zt 2 J J (fun _=>Zm (Zc J)) (Zk 3 J J ?_)));refine Zh (L':=[4,5,6,7]) [3,0,3,2,1,2,3,2] J J J ?_;refine CL (PkN.to (K.ex 1 O) [b2,b3,b4,b15] h O (E.ltm Ob) g.size) ?_;rintro v48 w48 ⟨⟨p48,c48,rfl,q48,k48⟩,h,g48⟩;refine ⟨nw1,?_⟩;have g:=g.trans g48;replace E:=E.gt g48 rfl;have ka:=ka.gtp g48;have hN:=hN.gt g48 rfl;refine Zr (g48) ?_;refine Zk 4 J J ?_;refine Zh (L':=[5,6,7]) [3,0,3,2,1,2,3,2] J J J ?_;refine CN fun _ _ N49 _ g E=>?_;have ka:=ka.new N49;have k48:=k48.new N49;have hN:=hN.new N49;have h:=h.grow (N49.g);have x49_15:=E.ne 0 2 rfl rfl rfl;refine Zr (GT.of_g (N49.g)) ?_;refine Zk 5 J J ?_;refine Yb (L':=[6,7]) [3,0,3,2,1,2,3,2] J J J J ?_;have hN:=hN.sub (Y:=[b2,b3,b4]) Oj;have hOo:=hN;refine Uu J Zd Zp J (Zc J) hN (Zc J) J E.g0.row (Vc k48 q48 Oj (fun j hj=>by obtain rfl:b15=j:=(by injection hj);simp)) Os (by have:=g.size;omega) ⟨by have:=g.size;omega,by have q2:=E.g4.lt;have q3:=E.g3.lt;have q4:=E.g1.lt;simp;omega⟩ ?_;intro a50 c50 w50 hN hg50;replace E:=E.sel [false,true,false,true,true];replace E:=E.keepX hg50 hOo.ne Ob;have g:=Wk g hg50 (fun k hk=>hOo.ge k hk);have h:=h.keepO hg50 hOo;refine Yl ?_;refine Zt 6 J J (fun _=>Zg Zf (Zc J)) (Zk 7 J J ?_)
     refine Yb (L':=[]) [3,0,3,2,1,2,3,2] J J J J ?_;refine AS fun _ ga Ca g E=>?_;have h:=Uc h;have hN:=Ua hN;refine Yl ?_;refine TK [0,2,3,4] ?_;refine AU ?_;have hnd2:=E.1;refine Ul (fun (y:Nat×List Nd×PSt) u2=>match y with|⟨f2,acc,U⟩=>(PR l sz n0 b tp tc U u2∧argL l x f2 acc U=argQ l x ta (adv T)∧remQ l U≤f2∧acc.length+f2≤l.length+3∧remQ l U≤remQ l (x.ex 1 (adv T)).2∧∃ s,Blk u2 b4 26 (ndCells (mkN 30 [] 0 (offQ l sz T) []) s)∧OwnN [b2,b3,b4] w.heap.size u2 acc s)∧GT mutP n0 w u2) _ [(0,True,_),(2,True,_),(3,True,_),(4,True,_)] (fun (y:Nat×List Nd×PSt)=>match y with|⟨f2,acc,U⟩=>[]) (fun (y:Nat×List Nd×PSt)=>match y with|⟨f2,acc,U⟩=>f2) ((l.length+1,[ta,(x.ex 1 (adv T)).1],(x.ex 1 (adv T)).2)) ⟨⟨h,by unfold argQ;rw [e5];rfl,Wsa,by simp;omega,Aaa _,_,E.g0,hN.sub Oj⟩,g⟩ (Ya (blkE E.g2) (Ya (blkE E.g1) (Xg _))) (Za J (Za J (Za J (Za J (Zo _))))) ?_;clear E;rintro ⟨f2,acc,U⟩ u2 ⟨hI2,gl2⟩ ⟨B2,B3,_⟩;replace B2:Blk _ _ _ _:=B2;replace B3:Blk _ _ _ _:=B3;have g:=gl2;obtain ⟨h,he2,hf2,hac,hrm2,s2,B4,hN⟩:=hI2;obtain ⟨sa,sc,rfl⟩:=hN.slice;have hUi:=h.hi;have hOlt:=hN.lt;have n9:=(X.ex 1 (adv T)).le.num hTa;have E:=Xoa (L:=[(b4,_,_),(b3,_,_),(b2,_,_)]) hnd2 ⟨B4,B3,B2,trivial⟩ rfl;refine AU ?_;refine CL (Jt [44] Od h) ?_;rintro _ _ ⟨rfl,h,ga⟩;refine RC fun g E=>?_;have hN:=hN.gt ga rfl;refine IF (fun h6=>?_) fun h6=>?_
     ·have e6:isQ l U [44]=true:=h6
      rw [e6] at h;simp only [Wpg] at h;have hp6:=Us e6 Od;have hOlt:=hN.lt;obtain ⟨f2',rfl⟩:∃ f',f2=f'+1:=⟨f2-1,O⟩;rw [argL,e6,Wpg] at he2;have n6:=(Xp e6 Od).num hUi;have n7:=(X.ex 1 (adv U)).le.num h.hi;refine AU ?_;refine Yr (gtP n0) [3,0,3,1,1,2,3,2] [0,1,0,4,12,31,63,127] mix KR [0,1,2,3,4,5,6,7] J ?_;have g:=gtd g;replace E:=E.dr;have ka:=ka.grow (G.drew _);have h:=h.grow (G.drew _);have hN:=hN.grow (G.drew _);refine Zt 0 J J (fun _=>Zg Zf (Zc J)) (Ye 1 J J (fun w1 hx=>Zw Zi (Zc J) (fun _=>(E.g0.gt hx J).at_ J)) (Zt 2 J J (fun _=>Zm (Zc J)) (Zk 3 J J ?_)));refine Zh (L':=[4,5,6,7]) [3,0,3,2,1,2,3,2] J J J ?_;refine CL (PkN.to (K.ex 1 O) [b2,b3,b4] h O (E.ltm Ob) g.size) ?_;rintro v57 w57 ⟨⟨p57,c57,rfl,q57,k57⟩,h,g57⟩;refine ⟨nw1,?_⟩;have g:=g.trans g57;replace E:=E.gt g57 rfl;have hN:=hN.gt g57 rfl;refine Zr (g57) ?_;refine Zk 4 J J ?_;refine Zh (L':=[5,6,7]) [3,0,3,2,1,2,3,2] J J J ?_;refine CN fun _ _ N58 _ g E=>?_;have k57:=k57.new N58;have hN:=hN.new N58;have h:=h.grow (N58.g);refine Zr (GT.of_g (N58.g)) ?_;refine Zk 5 J J ?_;refine Yb (L':=[6,7]) [3,0,3,2,1,2,3,2] J J J J ?_;have hN:=hN.sub (Y:=[b2,b3,b4]) Oj;have hOo:=hN;refine Uu J Zd Zp J (Zc J) hN (Zc J) J E.g0.row (Vc k57 q57 Oj (fun j hj=>.inr (hOlt j hj))) (by simp;omega) (by have:=g.size;omega) ⟨by have:=g.size;omega,by have q2:=E.g3.lt;have q3:=E.g2.lt;have q4:=E.g1.lt;simp;omega⟩ ?_;intro a59 c59 w59 hN hg59;replace E:=E.sel [false,true,true,true];replace E:=E.keepX hg59 hOo.ne Ob
      have g:=Wk g hg59 (fun k hk=>hOo.ge k hk);have h:=h.keepO hg59 hOo;refine Yl ?_;refine Zt 6 J J (fun _=>Zg Zf (Zc J)) (Zk 7 J J ?_);refine Yb (L':=[]) [3,0,3,2,1,2,3,2] J J J J ?_;refine AS fun _ ga Ca g E=>?_;have h:=Uc h;have hN:=Ua hN;refine Yl ?_;refine TK [0,2,3,4] ?_;refine Qe (fun a ha=>?_);exact ⟨(f2',acc++[(x.ex 1 (adv U)).1],(x.ex 1 (adv U)).2),ha,⟨⟨h,he2,O,by simp;omega,O,_,E.g0,hN.sub Oj⟩,g⟩,(Ya (blkE E.g2) (Ya (blkE E.g1) (Xg _))),by show f2'<f2'+1;omega⟩
     have e6:isQ l U [44]=false:=h6;rw [e6] at h;simp only [Wog] at h
     have he2:(acc,U)=argQ l x ta (adv T):=by
      rw [← he2]
      cases f2 with
      | zero=>rfl
      | succ f'=>rw [argL,e6];rfl
     refine AU ?_;refine CL (Wg [41] Od h) ?_;rintro _ _ ⟨rfl,h,ga⟩;refine RC fun g E=>?_;have hN:=hN.gt ga rfl;refine AS fun _ ga Ca g E=>?_;have h:=Uc h;have hN:=Ua hN;refine SK [0,2,3] ?_;refine Ze (fun a ha=>?_);rw [← he2] at he;have n10:=(Um (l:=l) (s:=[41]) Od U).num hUi;have kN:KdX w.heap.size [b2,b3] _ _ _:=OwnK.kd (hN.sub (Y:=[b2,b3]) Oj) fun b hb=>hb;exact ⟨(f',mkN 30 [] 0 (offQ l sz T) acc,takeQ l [41] U),ha,⟨⟨h,he,O,O,_,_,E.g1,kN⟩,g⟩,(Ya (blkE E.g2) (Xg _)),by show f'<f'+1;omega⟩
    have e5:isQ l (adv T) [41]=true:=by simpa using h5
    refine AU ?_;refine CL (Wg [41] Od h) ?_;rintro _ _ ⟨rfl,h,ga⟩;refine RC fun g E=>?_;have ka:=ka.gtp ga;have hN:=hN.gt ga rfl;refine AS fun _ ga Ca g E=>?_;have ka:=Ua ka;have h:=Uc h;have hN:=Ua hN;refine SK [0,2,3] ?_;refine Ze (fun a ha=>?_);have ea:argQ l x ta (adv T)=([ta],adv T):=by unfold argQ;rw [e5];rfl
    rw [ea] at he;have n10:=(Um (l:=l) (s:=[41]) Od (adv T)).num hTa;have kN:KdX w.heap.size [b2,b3] _ _ _:=OwnK.kd (hN.sub (Y:=[b2,b3]) Oj) fun b hb=>hb;exact ⟨(f',mkN 30 [] 0 (offQ l sz T) [ta],takeQ l [41] (adv T)),ha,⟨⟨h,he,O,O,_,_,E.g2,kN⟩,g⟩,(Ya (blkE E.g3) (Xg _)),by show f'<f'+1;omega⟩
   have e4:isQ l T [40]=false:=h4;rw [e4] at h he;simp only [Wog] at h he;refine AS fun _ ga Ca g E=>?_;have ka:=Ua ka;have h:=Uc h;refine RTN ?_;rw [← he];exact ⟨Zy rfl (ka.kdN (Aaa _)),h,g⟩
 replace h1:(!T.bad)=false:=h1
 have he:(ta,T)=priQ l sz x S:=by
  rw [← he]
  cases f with
  | zero=>rfl
  | succ f'=>rw [priL,h1];rfl
 refine AS fun _ ga Ca g E=>?_;have ka:=Ua ka;have h:=Uc h;refine RTN ?_;rw [← he];exact ⟨Zy rfl (ka.kdN (Aaa _)),h,g⟩
end
set_option maxHeartbeats 2000000
section
variable {l:List Tok} {sz:Int} {m:Nat} {x:Pz}
theorem Xfg(X:PzD l x)(K:PzOk l sz m x):PkN l sz (m+1) 0 153 [] (selQ l sz x):=by
  intro n0 b tc tp S w h hm
  have hi:=h.hi
  have hl:=h.hl
  have hlt:=h.lt
  have q2:=(Wu (l:=l) (s:=[115,101,108,101,99,116]) (by decide) S).tle (Um (s:=[123]) (by decide) _)
  have n2:=q2.num hi
  have g:=GT.refl mutP n0 w
  refine WK 56 [0] Tryz.func153 ?_
  refine AM fun b2 _ ga _ g E=>?_
  have h:=Ui h
  refine Ze (kq (Zn (Zu (Zx J (CL (Vt h) ?_)))))
  rintro _ _ ⟨rfl,ga⟩
  refine RC fun g E=>?_
  have h:=Uk h
  refine Zsa Zp Xt (pqc J (pqc J pq0)) J J (AN fun b3 _ ga _ g E=>?_)
  have h:=Ui h
  refine AS fun _ ga Ca g E=>?_
  have h:=Uc h
  refine AU ?_
  refine CL (Wg [115,101,108,101,99,116] (by decide) h) ?_
  rintro _ _ ⟨rfl,h,ga⟩
  refine RC fun g E=>?_
  refine AU ?_
  refine CL (Wg [123] (by decide) h) ?_
  rintro _ _ ⟨rfl,h,ga⟩
  refine RC fun g E=>?_
  refine AU ?_
  have hnd1:=E.1
  refine Ul (fun (y:Nat×List Nd×PSt) u1=>match y with|⟨f,acc,T⟩=>(PR l sz n0 b tp tc T u1∧selL l sz x f acc T=selL l sz x (l.length+1) [] (takeQ l [123] (takeQ l [115,101,108,101,99,116] S))∧remQ l T≤f∧acc.length+f≤l.length+1∧remQ l T≤remQ l (takeQ l [123] (takeQ l [115,101,108,101,99,116] S))∧∃ s,Blk u1 b3 26 (ndCells (mkN 22 [] 0 (offQ l sz S) []) s)∧OwnN [b2,b3] w.heap.size u1 acc s)∧GT mutP n0 w u1) _ [(0,True,_),(2,True,_),(3,True,_)] (fun (y:Nat×List Nd×PSt)=>match y with|⟨f,acc,T⟩=>[]) (fun (y:Nat×List Nd×PSt)=>match y with|⟨f,acc,T⟩=>f) ((l.length+1,[],takeQ l [123] (takeQ l [115,101,108,101,99,116] S))) ⟨⟨h,rfl,Wsa,by simp,Aaa _,_,E.g0,Jo _ _ _⟩,g⟩ (Ya (blkE E.g1) (Xg _)) (Za J (Za J (Za J (Zo _)))) ?_
  clear E
  rintro ⟨f,acc,T⟩ u1 ⟨hI1,gl1⟩ ⟨B2,_⟩
  replace B2:Blk _ _ _ _:=B2
  have g:=gl1
  obtain ⟨h,he,hf,hac,hrm,s,B3,hO⟩:=hI1
  obtain ⟨sa,sc,rfl⟩:=hO.slice
  have hmu:u1.heap.size≤u1.heap.size:=Aaa _
  have hOlt:=hO.lt
  have hTi:=h.hi
  have E:=Xoa (L:=[(b3,_,_),(b2,_,_)]) hnd1 ⟨B3,B2,trivial⟩ rfl
  refine AU ?_
  refine CG (fun hc=>Wya [125] h) (fun w21 g21=>?_)
  have g:=gtg g g21
  replace E:=E.grow g21
  have hmu:=Aba hmu ((g21)).size
  have h:=h.grow (g21)
  have hO:=hO.grow (g21)
  refine IF (fun h1=>?_) fun h1=>?_
  · replace h1:(!T.bad && !isQ l T [125])=true:=h1
    have hnb:T.bad=false:=by simpa using (Aka.1 h1).1
    have hp:=Wra (l:=l) hnb
    obtain ⟨f',rfl⟩:∃ f',f=f'+1:=⟨f-1,by omega⟩
    rw [selL,h1,Wpg] at he
    have n3:=(Xhd X T).num hTi
    have hTc:=(Xhd X T hTi).1
    have n4:=(Um (l:=l) (s:=[58]) (by decide) (casQ l x T).2).num hTc
    have n5:=(X.sts true (takeQ l [58] (casQ l x T).2)).num (Um (by decide) _ hTc).1
    refine Yp (kq (Yz (Zn (Zu (Zx J (CL (Vt h) ?_))))))
    rintro _ _ ⟨rfl,ga⟩
    refine RC fun g E=>?_
    have hmu:=Aba hmu ((ga)).size
    have h:=Uk h
    have hO:=Uk hO
    refine Zsa Zp Xt (pqc J (pqc J pq0)) J J (AN fun b4 _ ga _ g E=>?_)
    have y4:=Aba hmu (Aca ga.at_.symm)
    have hO:=Uj hO
    have hmu:=Aba hmu ((ga.g)).size
    have h:=Ui h
    refine AS fun _ ga Ca g E=>?_
    have hmu:=Aba hmu ga.size
    have h:=Uc h
    have hO:=Ua hO
    refine AN fun b5 _ ga _ g E=>?_
    have y5:=Aba hmu (Aca ga.at_.symm)
    have hO:=Uj hO
    have hmu:=Aba hmu ((ga.g)).size
    have h:=Ui h
    refine AS fun _ ga Ca g E=>?_
    have hmu:=Aba hmu ga.size
    have h:=Uc h
    have hO:=Ua hO
    refine AU ?_
    refine CL (Jt [100,101,102,97,117,108,116] (by decide) h) ?_
    rintro _ _ ⟨rfl,h,ga⟩
    refine RC fun g E=>?_
    have hmu:=Aba hmu (ga).size
    have hO:=hO.gt ga rfl
    refine IF (fun h2=>?_) fun h2=>?_
    · have e2:isQ l T [100,101,102,97,117,108,116]=false:=by simpa using h2
      rw [e2] at h; simp only [Wog] at h
      have ec:casQ l x T=x.sim true (takeQ l [99,97,115,101] T):=by unfold casQ;rw [e2];rfl
      have n6:=(Wu (l:=l) (s:=[99,97,115,101]) (by decide) T).num hTi
      refine AU ?_
      refine CL (Wg [99,97,115,101] (by decide) h) ?_
      rintro _ _ ⟨rfl,h,ga⟩
      refine RC fun g E=>?_
      have hmu:=Aba hmu (ga).size
      have hO:=hO.gt ga rfl
      refine AU ?_
      refine CL (PkN.to (K.sim true) [b2,b3,b4,b5] h (by omega) (E.ltm (by simp [selB])) hmu) ?_
      rintro _ _ ⟨⟨p34,c34,rfl,q34,k34⟩,h,ga⟩
      refine RC fun g E=>?_
      have hmu:=Aba hmu (ga).size
      have hO:=hO.gt ga rfl
      have ec2:(x.sim true (takeQ l [99,97,115,101] T)).2=(casQ l x T).2:=by rw [ec]
      rw [ec2] at h
      refine AS fun _ ga Ca g E=>?_
      have hmu:=Aba hmu ga.size
      have h:=Uc h
      have k34:=Ua k34
      have hO:=Ua hO
      refine Ze (kq (Zn (Zu (Zx J (CL (Vt h) ?_)))))
      rintro _ _ ⟨rfl,ga⟩
      refine RC fun g E=>?_
      have hmu:=Aba hmu ((ga)).size
      have h:=Uk h
      have k34:=Uk k34
      have hO:=Uk hO
      refine Zsa Zp Xt (pqc J (pqc J pq0)) J J (AN fun b6 _ ga l6 g E=>?_)
      have y6:=Aba hmu (Aca ga.at_.symm)
      have k34:=Uj k34
      have hO:=Uj hO
      have hmu:=Aba hmu ((ga.g)).size
      have h:=Ui h
      refine AS fun _ ga Ca g E=>?_
      have hmu:=Aba hmu ga.size
      have h:=Uc h
      have k34:=Ua k34
      have hO:=Ua hO
      refine AU ?_
      refine CL (Wg [58] (by decide) h) ?_
      rintro _ _ ⟨rfl,h,ga⟩
      refine RC fun g E=>?_
      have hmu:=Aba hmu (ga).size
      have k34:=k34.gtp ga
      have hO:=hO.gt ga rfl
      refine AU ?_
      refine CL (PkL.to (K.sts true) [b2,b3,b4,b5,b6] h (.inr (by omega)) (E.ltm (by simp [selB])) hmu) ?_
      rintro _ _ ⟨⟨p41,c41,rfl,q41,k41⟩,h,ga⟩
      refine RC fun g E=>?_
      have hmu:=Aba hmu (ga).size
      have k34:=k34.gtp ga
      have hO:=hO.gt ga rfl
      refine AS fun _ ga Ca g E=>?_
      have hmu:=Aba hmu ga.size
      have h:=Uc h
      have k34:=Ua k34
      have k41:=Ua k41
      have hO:=Ua hO
      refine CN fun b45 _ ga l45 g E=>?_
      have y45:=Aba hmu (Aca ga.at_.symm)
      have k34:=Uj k34
      have k41:=Uj k41
      have hO:=Uj hO
      have hmu:=Aba hmu ((ga.g)).size
      have h:=Ui h
      have x45_6:=E.ne 0 1 rfl rfl rfl
      have x45_5:=E.ne 0 2 rfl rfl rfl
      have x45_4:=E.ne 0 3 rfl rfl rfl
      have x45_3:=E.ne 0 4 rfl rfl rfl
      have x45_2:=E.ne 0 5 rfl rfl rfl
      refine AS fun _ ga Ca g E=>?_
      have hmu:=Aba hmu ga.size
      have h:=Uc h
      have k34:=Ua k34
      have k41:=Ua k41
      have hO:=Ua hO
      refine CN fun b50 w50 ga l50 g E=>?_
      have y50:=Aba hmu (Aca ga.at_.symm)
      have k34:=Uj k34
      have k41:=Uj k41
      have hO:=Uj hO
      have hmu:=Aba hmu ((ga.g)).size
      have h:=Ui h
      have x50_45:=E.ne 0 1 rfl rfl rfl
      have x50_6:=E.ne 0 2 rfl rfl rfl
      have x50_5:=E.ne 0 3 rfl rfl rfl
      have x50_4:=E.ne 0 4 rfl rfl rfl
      have x50_3:=E.ne 0 5 rfl rfl rfl
      have x50_2:=E.ne 0 6 rfl rfl rfl
      have kB:Kd w50 (fun k=>(u1.heap.size≤k∧k∉[b2,b3,b50])∧NdR w50 k) (x.sts true (takeQ l [58] (casQ l x T).2)).1 _:=k41.mono fun k hk _=>⟨⟨Aba q41 hk.1.1,by have:=hk.1.2;simp at this ⊢;omega⟩,hk.2⟩
      have kc:Kd w50 (fun k=>(u1.heap.size≤k∧k∉[b2,b3,b50])∧NdR w50 k) [(casQ l x T).1,mkN 10 [] 0 (offQ l sz (casQ l x T).2) (x.sts true (takeQ l [58] (casQ l x T).2)).1] (.slice (some ⟨b45,0,none⟩) 2 2):=by
        have hd:(fun k=>(u1.heap.size≤k∧k∉[b2,b3,b50])∧NdR w50 k) b45:=⟨⟨y45,by simp;omega⟩,Xq E.g1⟩
        first
        | (have kA:Kd w50 (fun k=>(u1.heap.size≤k∧k∉[b2,b3,b50])∧NdR w50 k) (x.sim true (takeQ l [99,97,115,101] T)).1.kids _:=k34.mono fun k hk _=>⟨⟨Aba q34 hk.1.1,by have:=hk.1.2;simp at this ⊢;omega⟩,hk.2⟩
           rw [show (casQ l x T).1=(x.sim true (takeQ l [99,97,115,101] T)).1 by rw [ec]]
           exact Wi (ks:=[_,mkN 10 [] 0 _ _]) hd E.g1.row (Xy kA (Ys (t:=mkN 10 [] 0 _ _) kB)) (Aaa _))
        | (rw [show (casQ l x T).1=nonN by rw [ec]]
           exact Wi (ks:=[nonN,mkN 10 [] 0 _ _]) hd E.g1.row (Xy (t:=nonN) (Yhc _ _) (Ys (t:=mkN 10 [] 0 _ _) kB)) (Aaa _))
      have kr:KRow w50 (fun k=>(Dx w.heap.size [b2,b3] k∧NdR w50 k)∧some k≠(Da sa acc.length sc).ownBlock) [(mkN 23 [] 0 (offQ l sz T) [(casQ l x T).1,mkN 10 [] 0 (offQ l sz (casQ l x T).2) (x.sts true (takeQ l [58] (casQ l x T).2)).1])] (ndCells (mkN 23 [] 0 (offQ l sz T) [(casQ l x T).1,mkN 10 [] 0 (offQ l sz (casQ l x T).2) (x.sts true (takeQ l [58] (casQ l x T).2)).1]) (.slice (some ⟨b45,0,none⟩) 2 2)):=Ys (t:=(mkN 23 [] 0 (offQ l sz T) [(casQ l x T).1,mkN 10 [] 0 (offQ l sz (casQ l x T).2) (x.sts true (takeQ l [58] (casQ l x T).2)).1])) (kc.mono fun k hk _=>⟨⟨⟨Aba gl1.size hk.1.1,by have:=hk.1.2;simp at this ⊢;omega⟩,hk.2⟩,by intro e;have:=hOlt k e.symm;have:=hk.1.1;omega⟩)
      have hO:=hO.sub (Y:=[b2,b3]) (by intro j hj;simp at hj ⊢;omega)
      have hOo:=hO
      refine Uu J Zd Zp J (Zc J) hO (Zc J) J E.g0.row kr (by simp;omega) (by have:=g.size;omega) ⟨by have:=g.size;omega,by have q2:=E.g6.lt;have q3:=E.g5.lt;simp;omega⟩ ?_
      intro a51 c51 w51 hO hg51
      replace E:=E.sel [false,false,false,false,false,true,true]
      replace E:=E.keepX hg51 hOo.ne (by simp [selB])
      have g:=Wk g hg51 (fun k hk=>hOo.ge k hk)
      have h:=h.keepO hg51 hOo
      refine AS fun _ ga Ca g E=>?_
      have h:=Uc h
      have hO:=Ua hO
      refine SK [0,2,3] ?_
      refine Ze (fun a ha=>?_)
      exact ⟨(f',_,_),ha,⟨⟨h,he,by omega,by simp;omega,by omega,_,E.g0,hO⟩,g⟩,(Ya (blkE E.g1) (Xg _)),by show f'<f'+1;omega⟩
    have e2:isQ l T [100,101,102,97,117,108,116]=true:=by simpa using h2
    rw [e2] at h; simp only [Wpg] at h
    have ec:casQ l x T=(nonN,adv T):=by unfold casQ;rw [e2];rfl
    have ec2:adv T=(casQ l x T).2:=by rw [ec]
    rw [ec2] at h
    refine Yp (kq (Zn (Zu (Zx J (CL (Vt h) ?_)))))
    rintro _ _ ⟨rfl,ga⟩
    refine RC fun g E=>?_
    have hmu:=Aba hmu ((ga)).size
    have h:=Uk h
    have hO:=Uk hO
    refine Zsa Zp Xt (pqc J (pqc J pq0)) J J (AN fun b6 _ ga _ g E=>?_)
    have y6:=Aba hmu (Aca ga.at_.symm)
    have hO:=Uj hO
    have hmu:=Aba hmu ((ga.g)).size
    have h:=Ui h
    refine AS fun _ ga Ca g E=>?_
    have hmu:=Aba hmu ga.size
    have h:=Uc h
    have hO:=Ua hO
    refine AU ?_
    refine CL (Wg [58] (by decide) h) ?_
    rintro _ _ ⟨rfl,h,ga⟩
    refine RC fun g E=>?_
    have hmu:=Aba hmu (ga).size
    have hO:=hO.gt ga rfl
    refine AU ?_
    refine CL (PkL.to (K.sts true) [b2,b3,b4,b5,b6] h (.inr (by omega)) (E.ltm (by simp [selB])) hmu) ?_
    rintro _ _ ⟨⟨p41,c41,rfl,q41,k41⟩,h,ga⟩
    refine RC fun g E=>?_
    have hmu:=Aba hmu (ga).size
    have hO:=hO.gt ga rfl
    refine AS fun _ ga Ca g E=>?_
    have hmu:=Aba hmu ga.size
    have h:=Uc h
    have k41:=Ua k41
    have hO:=Ua hO
    refine CN fun b45 _ ga _ g E=>?_
    have y45:=Aba hmu (Aca ga.at_.symm)
    have k41:=Uj k41
    have hO:=Uj hO
    have hmu:=Aba hmu ((ga.g)).size
    have h:=Ui h
    have x45_6:=E.ne 0 1 rfl rfl rfl
    have x45_5:=E.ne 0 2 rfl rfl rfl
    have x45_4:=E.ne 0 3 rfl rfl rfl
    have x45_3:=E.ne 0 4 rfl rfl rfl
    have x45_2:=E.ne 0 5 rfl rfl rfl
    refine AS fun _ ga Ca g E=>?_
    have hmu:=Aba hmu ga.size
    have h:=Uc h
    have k41:=Ua k41
    have hO:=Ua hO
    refine CN fun b50 w50 ga _ g E=>?_
    have y50:=Aba hmu (Aca ga.at_.symm)
    have k41:=Uj k41
    have hO:=Uj hO
    have hmu:=Aba hmu ((ga.g)).size
    have h:=Ui h
    have x50_45:=E.ne 0 1 rfl rfl rfl
    have x50_6:=E.ne 0 2 rfl rfl rfl
    have x50_5:=E.ne 0 3 rfl rfl rfl
    have x50_4:=E.ne 0 4 rfl rfl rfl
    have x50_3:=E.ne 0 5 rfl rfl rfl
    have x50_2:=E.ne 0 6 rfl rfl rfl
    have kB:Kd w50 (fun k=>(u1.heap.size≤k∧k∉[b2,b3,b50])∧NdR w50 k) (x.sts true (takeQ l [58] (casQ l x T).2)).1 _:=k41.mono fun k hk _=>⟨⟨Aba q41 hk.1.1,by have:=hk.1.2;simp at this ⊢;omega⟩,hk.2⟩
    have kc:Kd w50 (fun k=>(u1.heap.size≤k∧k∉[b2,b3,b50])∧NdR w50 k) [(casQ l x T).1,mkN 10 [] 0 (offQ l sz (casQ l x T).2) (x.sts true (takeQ l [58] (casQ l x T).2)).1] (.slice (some ⟨b45,0,none⟩) 2 2):=by
      have hd:(fun k=>(u1.heap.size≤k∧k∉[b2,b3,b50])∧NdR w50 k) b45:=⟨⟨y45,by simp;omega⟩,Xq E.g1⟩
      first
      | (have kA:Kd w50 (fun k=>(u1.heap.size≤k∧k∉[b2,b3,b50])∧NdR w50 k) (x.sim true (takeQ l [99,97,115,101] T)).1.kids _:=k34.mono fun k hk _=>⟨⟨Aba q34 hk.1.1,by have:=hk.1.2;simp at this ⊢;omega⟩,hk.2⟩
         rw [show (casQ l x T).1=(x.sim true (takeQ l [99,97,115,101] T)).1 by rw [ec]]
         exact Wi (ks:=[_,mkN 10 [] 0 _ _]) hd E.g1.row (Xy kA (Ys (t:=mkN 10 [] 0 _ _) kB)) (Aaa _))
      | (rw [show (casQ l x T).1=nonN by rw [ec]]
         exact Wi (ks:=[nonN,mkN 10 [] 0 _ _]) hd E.g1.row (Xy (t:=nonN) (Yhc _ _) (Ys (t:=mkN 10 [] 0 _ _) kB)) (Aaa _))
    have kr:KRow w50 (fun k=>(Dx w.heap.size [b2,b3] k∧NdR w50 k)∧some k≠(Da sa acc.length sc).ownBlock) [(mkN 23 [] 0 (offQ l sz T) [(casQ l x T).1,mkN 10 [] 0 (offQ l sz (casQ l x T).2) (x.sts true (takeQ l [58] (casQ l x T).2)).1])] (ndCells (mkN 23 [] 0 (offQ l sz T) [(casQ l x T).1,mkN 10 [] 0 (offQ l sz (casQ l x T).2) (x.sts true (takeQ l [58] (casQ l x T).2)).1]) (.slice (some ⟨b45,0,none⟩) 2 2)):=Ys (t:=(mkN 23 [] 0 (offQ l sz T) [(casQ l x T).1,mkN 10 [] 0 (offQ l sz (casQ l x T).2) (x.sts true (takeQ l [58] (casQ l x T).2)).1])) (kc.mono fun k hk _=>⟨⟨⟨Aba gl1.size hk.1.1,by have:=hk.1.2;simp at this ⊢;omega⟩,hk.2⟩,by intro e;have:=hOlt k e.symm;have:=hk.1.1;omega⟩)
    have hO:=hO.sub (Y:=[b2,b3]) (by intro j hj;simp at hj ⊢;omega)
    have hOo:=hO
    refine Uu J Zd Zp J (Zc J) hO (Zc J) J E.g0.row kr (by simp;omega) (by have:=g.size;omega) ⟨by have:=g.size;omega,by have q2:=E.g6.lt;have q3:=E.g5.lt;simp;omega⟩ ?_
    intro a51 c51 w51 hO hg51
    replace E:=E.sel [false,false,false,false,false,true,true]
    replace E:=E.keepX hg51 hOo.ne (by simp [selB])
    have g:=Wk g hg51 (fun k hk=>hOo.ge k hk)
    have h:=h.keepO hg51 hOo
    refine AS fun _ ga Ca g E=>?_
    have h:=Uc h
    have hO:=Ua hO
    refine SK [0,2,3] ?_
    refine Ze (fun a ha=>?_)
    exact ⟨(f',_,_),ha,⟨⟨h,he,by omega,by simp;omega,by omega,_,E.g0,hO⟩,g⟩,(Ya (blkE E.g1) (Xg _)),by show f'<f'+1;omega⟩
  replace h1:(!T.bad && !isQ l T [125])=false:=h1
  have he:(acc,T)=selL l sz x (l.length+1) [] (takeQ l [123] (takeQ l [115,101,108,101,99,116] S)):=by
    rw [← he]
    cases f with
    | zero=>rfl
    | succ f'=>rw [selL,h1];rfl
  refine AU ?_
  refine CL (Wg [125] (by decide) h) ?_
  rintro _ _ ⟨rfl,h,ga⟩
  refine RC fun g E=>?_
  have hmu:=Aba hmu (ga).size
  have hO:=hO.gt ga rfl
  refine AS fun _ ga Ca g E=>?_
  have hmu:=Aba hmu ga.size
  have h:=Uc h
  have hO:=Ua hO
  refine RTN ?_
  have e:selQ l sz x S=(mkN 22 [] 0 (offQ l sz S) acc,takeQ l [125] T):=by unfold selQ;dsimp only;rw [← he]
  rw [e];exact ⟨Zy (t:=mkN 22 [] 0 (offQ l sz S) acc) rfl hO.kd,h,g⟩
theorem Qsf(X:PzD l x)(K:PzOk l sz m x):PkN l sz (m+1) 5 126 [] (stQ l sz x):=by
 intro n0 b tc tp S w h hm;have hi:=h.hi;have hl:=h.hl;have hlt:=h.lt;have g:=GT.refl mutP n0 w;refine WK 156 [0] Tryz.func126 ?_;refine AM fun b2 _ ga _ g E=>?_;have h:=Ui h;refine AU ?_;refine CL (Vt h) ?_;rintro _ _ ⟨rfl,ga⟩;refine RC fun g E=>?_;have h:=Uk h;refine AN fun b3 _ ga _ g E=>?_;have h:=Ui h;refine AS fun _ ga Ca g E=>?_;have h:=Uc h;refine AU ?_;refine CL (Vqa 0 O h) ?_;rintro _ _ ⟨rfl,ga⟩;refine RC fun g E=>?_;have h:=Uk h;refine IF (fun h1=>?_) fun h1=>?_;have e1:isQ l S [118,97,114]=true:=h1;have hadv:=(Vh e1 Od).2;have hp:=Us e1 Od;have na:=(Xp e1 Od).num hi;have n1:=((Xp e1 Od).trans (Qw _)).num hi;have n2:=((Xp e1 Od).trans ((Qw _).trans (Xeb (sz:=sz) _))).num hi;refine AS fun _ ga Ca g E=>?_;have h:=Uc h;refine AU ?_;refine Yc J Wz (Zc J) (Zc J) J h.B J J ?_;intro wS3 hgS3 _ BS;replace E:=E.keepT hgS3 h.B rfl;have g:=Uw g hgS3 h.B rfl h.hb;have h:=h.adv hgS3 BS (by first|assumption|omega);refine AU ?_;refine CL (Vra h) ?_;rintro _ _ ⟨rfl,h,ga⟩;refine RC fun g E=>?_;refine AS fun _ ga Ca g E=>?_;have h:=Uc h;refine AU ?_;refine CL (PkN.to (Xid) [b2,b3] h (by have:=Wsa (S:=S) (l:=l);omega) (E.ltm Ob) g.size) ?_;rintro _ _ ⟨⟨p25,c25,rfl,q25,k25⟩,h,ga⟩;refine RC fun g E=>?_;refine CN fun b27 _ ga l27 g E=>?_;have k25:=Uj k25;have h:=Ui h;refine AS fun _ ga Ca g E=>?_;have h:=Uc h;have k25:=Ua k25;refine AU ?_;refine CL (Jt [61] Od h) ?_;rintro _ _ ⟨rfl,h,ga⟩;refine RC fun g E=>?_;have k25:=k25.gtp ga;refine IF (fun h2=>?_) fun h2=>?_;have e2:isQ l (typQ l sz (nameQ l (adv S)).2).2 [61]=true:=h2;rw [e2] at h;simp only [Wpg] at h
 have n3:=((Xp e1 Od).trans ((Qw _).trans ((Xeb (sz:=sz) _).trans (Xp e2 Od)))).num hi;refine Yr (gtP n0) [3,0,3,1,3,2] [0,1,0,4,15,31] mix KR [0,1,2,3,4,5] J ?_;have g:=gtd g;replace E:=E.dr;have h:=h.grow (G.drew _);have k25:=k25.grow (G.drew _);refine Zt 0 J J (fun _=>Zg Zf (Zc J)) (Ye 1 J J (fun w1 hx=>Zw Zi (Zc J) (fun _=>(E.g1.gt hx J).at_ J)) (Zt 2 J J (fun _=>Zm (Zc J)) (Zk 3 J J ?_)));refine Zh (L':=[4,5]) [3,0,3,2,3,2] J J J ?_;refine CL (PkN.to (K.ex 1 O) [b2,b3,b27] h O (E.ltm Ob) g.size) ?_;rintro v34 w34 ⟨⟨p34,c34,rfl,q34,k34⟩,h,g34⟩;refine ⟨nw1,?_⟩;have g:=g.trans g34;replace E:=E.gt g34 rfl;have k25:=k25.gtp g34;refine Zr (g34) ?_;refine Zt 4 J J (fun _=>Vaa Zd (Zc J) Xh (fun _=>O)) (Zk 5 J J ?_);refine Yb (L':=[]) [3,0,3,2,3,2] J J J J ?_;refine Xo J Xa (Zc J) (Zc J) J J E.g0 J J ?_;intro wS6 hgS6 _ BS;have C27:=E.g0;replace E:=E.s0 hgS6 BS;have g:=Yg g hgS6 O;have h:=h.keep hgS6 C27 rfl rfl;have k25:=k25.keep hgS6 Os;have k34:=k34.keep hgS6 Os;refine Yl ?_;refine TK [0,2,3] ?_;refine AS fun _ ga Ca g E=>?_;have h:=Uc h;have k25:=Ua k25;have k34:=Ua k34;refine RTN ?_;have e:stQ l sz x S=(mkN 6 (nameQ l (adv S)).1 0 (offQ l sz S) [(typQ l sz (nameQ l (adv S)).2).1,(x.ex 1 (adv (typQ l sz (nameQ l (adv S)).2).2)).1],(x.ex 1 (adv (typQ l sz (nameQ l (adv S)).2).2)).2):=by unfold stQ;rw [e1];show varQ l sz x S=_;unfold varQ;dsimp only;rw [e2];rfl
 rw [e];exact ⟨Zy (t:=mkN 6 (nameQ l (adv S)).1 0 (offQ l sz S) [_,_]) rfl (Wi (ks:=[_,_]) ⟨l27,Xq E.g0⟩ E.g0.row (Xy (k25.kdN q25) (Ys (k34.kdN q34))) (Aaa _)),h,g⟩;have e2:isQ l (typQ l sz (nameQ l (adv S)).2).2 [61]=false:=h2;rw [e2] at h;simp only [Wog] at h;refine AS fun _ ga Ca g E=>?_;have h:=Uc h;have k25:=Ua k25;refine RTN ?_;have e:stQ l sz x S=(mkN 6 (nameQ l (adv S)).1 0 (offQ l sz S) [(typQ l sz (nameQ l (adv S)).2).1,nonN],(typQ l sz (nameQ l (adv S)).2).2):=by unfold stQ;rw [e1];show varQ l sz x S=_;unfold varQ;dsimp only;rw [e2];rfl
 rw [e];exact ⟨Zy (t:=mkN 6 (nameQ l (adv S)).1 0 (offQ l sz S) [_,nonN]) rfl (Wi (ks:=[_,nonN]) ⟨l27,Xq E.g0⟩ E.g0.row (Xy (k25.kdN q25) (Ys (Vj _ _))) (Aaa _)),h,g⟩;have e1:isQ l S [118,97,114]=false:=h1;refine AU ?_;refine' OR [0,2,3,10] (fun hb3=>?y3) (kq ?n3)
 case y3 =>
  refine AU ?_;refine SK [37,0,2,3,10] ?_;exact Ze knr
 case n3 =>
  refine IF (fun h4=>?_) fun h4=>?_;replace h4:(isQ l S [103,111] || isQ l S [100,101,102,101,114])=true:=h4
  have hadv:S.ix<l.length:=by
   rcases Afa.1 h4 with q|q;exact (Vh q Od).2;exact (Vh q Od).2
  have hp:1≤remQ l S:=by
   rcases Afa.1 h4 with q|q;exact Us q Od;exact Us q Od
  have na:=(Zha hadv).num hi;refine AS fun _ ga Ca g E=>?_;have h:=Uc h;refine AU ?_;refine CL (Wya [100,101,102,101,114] h) ?_;rintro _ _ ⟨rfl,ga⟩;refine RC fun g E=>?_;have h:=Uk h;refine IF (fun h5=>?_) fun h5=>?_;have e5:isQ l S [100,101,102,101,114]=true:=h5;refine AS fun _ ga Ca g E=>?_;have h:=Uc h;refine AU ?_;refine Yc J Wz (Zc J) (Zc J) J h.B J J ?_;intro wS11 hgS11 _ BS;replace E:=E.keepT hgS11 h.B rfl;have g:=Uw g hgS11 h.B rfl h.hb;have h:=h.adv hgS11 BS (by first|assumption|omega);refine AU ?_;refine CL (PkN.to (K.pri) [b2,b3] h O (E.ltm Ob) g.size) ?_;rintro _ _ ⟨⟨p52,c52,rfl,q52,k52⟩,h,ga⟩;refine RC fun g E=>?_;refine AN fun _ _ ga l4 g E=>?_;have k52:=Uj k52;have h:=Ui h;refine AS fun _ ga Ca g E=>?_;have h:=Uc h;have k52:=Ua k52;refine IF (fun h6=>?_) fun h6=>?_;have e6:(!decide ((x.pri (adv S)).1.kind=30))=true:=h6;refine AU ?_;refine CL (Wqa h) ?_;rintro _ _ ⟨rfl,h,ga⟩;refine RC fun g E=>?_;have k52:=k52.gtp ga;refine CN fun _ _ ga l59 g E=>?_;have k52:=Uj k52;have h:=Ui h;refine AS fun _ ga Ca g E=>?_;have h:=Uc h;have k52:=Ua k52;refine AS fun _ ga Ca g E=>?_;have h:=Uc h;have k52:=Ua k52;refine RTN ?_;have e:stQ l sz x S=(mkN 15 [] 0 (offQ l sz S) [(x.pri (adv S)).1],failQ (x.pri (adv S)).2):=by unfold stQ;rw [e1,h4];dsimp only [Wpg,Wog];rw [e5,e6];rfl
  rw [e];exact ⟨Zy (t:=mkN 15 [] 0 (offQ l sz S) [_]) rfl (Wi (ks:=[_]) ⟨l59,Xq E.g0⟩ E.g0.row (Ys (k52.kdN q52)) (Aaa _)),h,g⟩;have e6:(!decide ((x.pri (adv S)).1.kind=30))=false:=h6;refine CN fun _ _ ga l59 g E=>?_;have k52:=Uj k52;have h:=Ui h;refine AS fun _ ga Ca g E=>?_;have h:=Uc h;have k52:=Ua k52;refine AS fun _ ga Ca g E=>?_;have h:=Uc h;have k52:=Ua k52;refine RTN ?_;have e:stQ l sz x S=(mkN 15 [] 0 (offQ l sz S) [(x.pri (adv S)).1],(x.pri (adv S)).2):=by unfold stQ;rw [e1,h4];dsimp only [Wpg,Wog];rw [e5,e6];rfl
  rw [e];exact ⟨Zy (t:=mkN 15 [] 0 (offQ l sz S) [_]) rfl (Wi (ks:=[_]) ⟨l59,Xq E.g0⟩ E.g0.row (Ys (k52.kdN q52)) (Aaa _)),h,g⟩;have e5:isQ l S [100,101,102,101,114]=false:=h5;refine AU ?_;refine Yc J Wz (Zc J) (Zc J) J h.B J J ?_;intro wS17 hgS17 _ BS;replace E:=E.keepT hgS17 h.B rfl;have g:=Uw g hgS17 h.B rfl h.hb;have h:=h.adv hgS17 BS (by first|assumption|omega);refine AU ?_;refine CL (PkN.to (K.pri) [b2,b3] h O (E.ltm Ob) g.size) ?_;rintro _ _ ⟨⟨p52,c52,rfl,q52,k52⟩,h,ga⟩;refine RC fun g E=>?_;refine AN fun _ _ ga _ g E=>?_;have k52:=Uj k52;have h:=Ui h;refine AS fun _ ga Ca g E=>?_;have h:=Uc h;have k52:=Ua k52;refine IF (fun h7=>?_) fun h7=>?_;have e6:(!decide ((x.pri (adv S)).1.kind=30))=true:=h7;refine AU ?_;refine CL (Wqa h) ?_;rintro _ _ ⟨rfl,h,ga⟩;refine RC fun g E=>?_;have k52:=k52.gtp ga;refine CN fun _ _ ga l59 g E=>?_;have k52:=Uj k52;have h:=Ui h;refine AS fun _ ga Ca g E=>?_;have h:=Uc h;have k52:=Ua k52;refine AS fun _ ga Ca g E=>?_;have h:=Uc h;have k52:=Ua k52;refine RTN ?_;have e:stQ l sz x S=(mkN 14 [] 0 (offQ l sz S) [(x.pri (adv S)).1],failQ (x.pri (adv S)).2):=by unfold stQ;rw [e1,h4];dsimp only [Wpg,Wog];rw [e5,e6];rfl
  rw [e];exact ⟨Zy (t:=mkN 14 [] 0 (offQ l sz S) [_]) rfl (Wi (ks:=[_]) ⟨l59,Xq E.g0⟩ E.g0.row (Ys (k52.kdN q52)) (Aaa _)),h,g⟩;have e6:(!decide ((x.pri (adv S)).1.kind=30))=false:=h7;refine CN fun _ _ ga l59 g E=>?_;have k52:=Uj k52;have h:=Ui h;refine AS fun _ ga Ca g E=>?_;have h:=Uc h;have k52:=Ua k52;refine AS fun _ ga Ca g E=>?_;have h:=Uc h;have k52:=Ua k52;refine RTN ?_;have e:stQ l sz x S=(mkN 14 [] 0 (offQ l sz S) [(x.pri (adv S)).1],(x.pri (adv S)).2):=by unfold stQ;rw [e1,h4];dsimp only [Wpg,Wog];rw [e5,e6];rfl
  rw [e];exact ⟨Zy (t:=mkN 14 [] 0 (offQ l sz S) [_]) rfl (Wi (ks:=[_]) ⟨l59,Xq E.g0⟩ E.g0.row (Ys (k52.kdN q52)) (Aaa _)),h,g⟩;replace h4:(isQ l S [103,111] || isQ l S [100,101,102,101,114])=false:=h4;skip;refine AU ?_;refine' OR [0,2,3,10] (fun hb8=>?y8) (kq ?n8)
  case y8 =>
   refine AU ?_;refine SK [62,0,2,3,10] ?_;exact Ze knr
  case n8 =>
   refine IF (fun h9=>?_) fun h9=>?_;replace h9:(isQ l S [99,108,111,115,101] || isQ l S [112,114,105,110,116])=true:=h9
   have hadv:S.ix<l.length:=by
    rcases Afa.1 h9 with q|q;exact (Vh q Od).2;exact (Vh q Od).2
   have hp:1≤remQ l S:=by
    rcases Afa.1 h9 with q|q;exact Us q Od;exact Us q Od
   have na:=((Zha hadv).trans (Wu (s:=[40]) Od _)).num hi;refine AS fun _ ga Ca g E=>?_;have h:=Uc h;refine AU ?_;refine CL (Wya [112,114,105,110,116] h) ?_;rintro _ _ ⟨rfl,ga⟩;refine RC fun g E=>?_;have h:=Uk h;refine IF (fun h10=>?_) fun h10=>?_;have e10:isQ l S [112,114,105,110,116]=true:=h10;refine AS fun _ ga Ca g E=>?_;have h:=Uc h;refine AU ?_;refine Yc J Wz (Zc J) (Zc J) J h.B J J ?_;intro wS25 hgS25 _ BS;replace E:=E.keepT hgS25 h.B rfl;have g:=Uw g hgS25 h.B rfl h.hb;have h:=h.adv hgS25 BS (by first|assumption|omega);refine AU ?_;refine CL (Wg [40] Od h) ?_;rintro _ _ ⟨rfl,h,ga⟩;refine RC fun g E=>?_;refine AU ?_;refine CL (PkN.to (K.ex 1 O) [b2,b3] h O (E.ltm Ob) g.size) ?_;rintro _ _ ⟨⟨p79,c79,rfl,q79,k79⟩,h,ga⟩;refine RC fun g E=>?_;refine CN fun _ _ ga l80 g E=>?_;have k79:=Uj k79;have h:=Ui h;refine AS fun _ ga Ca g E=>?_;have h:=Uc h;have k79:=Ua k79;refine AU ?_;refine CL (Wg [41] Od h) ?_;rintro _ _ ⟨rfl,h,ga⟩;refine RC fun g E=>?_;have k79:=k79.gtp ga;refine AS fun _ ga Ca g E=>?_;have h:=Uc h;have k79:=Ua k79;refine RTN ?_;have e:stQ l sz x S=(mkN 21 [] 0 (offQ l sz S) [(x.ex 1 (takeQ l [40] (adv S))).1],takeQ l [41] (x.ex 1 (takeQ l [40] (adv S))).2):=by unfold stQ;rw [e1,h4,h9];dsimp only [Wpg,Wog];rw [e10];rfl
   rw [e];exact ⟨Zy (t:=mkN 21 [] 0 (offQ l sz S) [_]) rfl (Wi (ks:=[_]) ⟨l80,Xq E.g0⟩ E.g0.row (Ys (k79.kdN q79)) (Aaa _)),h,g⟩;have e10:isQ l S [112,114,105,110,116]=false:=h10;refine AU ?_;refine Yc J Wz (Zc J) (Zc J) J h.B J J ?_;intro wS28 hgS28 _ BS;replace E:=E.keepT hgS28 h.B rfl;have g:=Uw g hgS28 h.B rfl h.hb;have h:=h.adv hgS28 BS (by first|assumption|omega);refine AU ?_;refine CL (Wg [40] Od h) ?_;rintro _ _ ⟨rfl,h,ga⟩;refine RC fun g E=>?_;refine AU ?_;refine CL (PkN.to (K.ex 1 O) [b2,b3] h O (E.ltm Ob) g.size) ?_;rintro _ _ ⟨⟨p79,c79,rfl,q79,k79⟩,h,ga⟩;refine RC fun g E=>?_;refine CN fun _ _ ga l80 g E=>?_;have k79:=Uj k79;have h:=Ui h;refine AS fun _ ga Ca g E=>?_;have h:=Uc h;have k79:=Ua k79;refine AU ?_;refine CL (Wg [41] Od h) ?_;rintro _ _ ⟨rfl,h,ga⟩;refine RC fun g E=>?_;have k79:=k79.gtp ga;refine AS fun _ ga Ca g E=>?_;have h:=Uc h;have k79:=Ua k79;refine RTN ?_;have e:stQ l sz x S=(mkN 17 [] 0 (offQ l sz S) [(x.ex 1 (takeQ l [40] (adv S))).1],takeQ l [41] (x.ex 1 (takeQ l [40] (adv S))).2):=by unfold stQ;rw [e1,h4,h9];dsimp only [Wpg,Wog];rw [e10];rfl
   rw [e];exact ⟨Zy (t:=mkN 17 [] 0 (offQ l sz S) [_]) rfl (Wi (ks:=[_]) ⟨l80,Xq E.g0⟩ E.g0.row (Ys (k79.kdN q79)) (Aaa _)),h,g⟩;replace h9:(isQ l S [99,108,111,115,101] || isQ l S [112,114,105,110,116])=false:=h9;skip;refine IF (fun h11=>?_) fun h11=>?_;have e11:isQ l S [105,102]=true:=h11;have hadv:=(Vh e11 Od).2;have hp:=Us e11 Od;have na:=(Xp e11 Od).num hi;refine AU ?_;refine CL (PkN.to (K.ifs) [b2,b3] h O (E.ltm Ob) g.size) ?_;rintro _ _ ⟨⟨p88,c88,rfl,q88,k88⟩,h,ga⟩;refine RC fun g E=>?_;refine AS fun _ ga Ca g E=>?_;have h:=Uc h;have k88:=Ua k88;refine RTN ?_;have e:stQ l sz x S=x.ifs S:=by unfold stQ;rw [e1,h4,h9,e11];rfl
   rw [e];exact ⟨Zy rfl (k88.kdN q88),h,g⟩;have e11:isQ l S [105,102]=false:=h11;refine IF (fun h12=>?_) fun h12=>?_;have e12:isQ l S [102,111,114]=true:=h12;have hadv:=(Vh e12 Od).2;have hp:=Us e12 Od;have na:=(Xp e12 Od).num hi;refine AU ?_;refine Yc J Wz (Zc J) (Zc J) J h.B J J ?_;intro wS32 hgS32 _ BS;replace E:=E.keepT hgS32 h.B rfl;have g:=Uw g hgS32 h.B rfl h.hb;have h:=h.adv hgS32 BS (by first|assumption|omega);refine AS fun _ ga Ca g E=>?_;have h:=Uc h;refine AN fun b5 _ ga _ g E=>?_;have h:=Ui h;refine AS fun _ ga Ca g E=>?_;have h:=Uc h;refine AU ?_;refine CL (Wya [123] h) ?_;rintro _ _ ⟨rfl,ga⟩;refine RC fun g E=>?_;have h:=Uk h;refine IF (fun h13=>?_) fun h13=>?_;have e13:isQ l (adv S) [123]=false:=by simpa using h13
   have nb:=((Xp e12 Od).trans (X.ex 1 _)).num hi;refine AU ?_;refine CL (PkN.to (K.ex 1 O) [b2,b3,b5] h O (E.ltm Ob) g.size) ?_;rintro _ _ ⟨⟨p104,c104,rfl,q104,k104⟩,h,ga⟩;refine RC fun g E=>?_;refine AS fun _ ga Ca g E=>?_;have h:=Uc h;have k104:=Ua k104;refine AU ?_;refine Yr (gtP n0) [0,3,1,1,3,2] [0,0,2,7,15,31] mix KR [0,1,2,3,4,5] J ?_;have g:=gtd g;replace E:=E.dr;have h:=h.grow (G.drew _);have k104:=k104.grow (G.drew _);refine Ye 0 J J (fun w1 hx=>Zq Zj (Zc J) J (fun _=>(E.g0.gt hx J).row)) (Zt 1 J J (fun _=>Zm (Zc J)) (Zk 2 J J ?_));refine Zh (L':=[3,4,5]) [0,3,2,1,3,2] J J J ?_;refine CL (PkN.to (K.blk) [b2,b3,b5] h O (E.ltm Ob) g.size) ?_;rintro v107 w107 ⟨⟨p107,c107,rfl,q107,k107⟩,h,g107⟩;refine ⟨nw1,?_⟩;have g:=g.trans g107;replace E:=E.gt g107 rfl;have k104:=k104.gtp g107;refine Zr (g107) ?_;refine Zk 3 J J ?_;refine Zh (L':=[4,5]) [0,3,2,1,3,2] J J J ?_;refine CN fun _ _ N108 l108 g E=>?_;have k104:=k104.new N108;have k107:=k107.new N108;have h:=h.grow (N108.g);refine Zr (GT.of_g (N108.g)) ?_;refine Zt 4 J J (fun _=>Zg Zf (Zc J)) (Zk 5 J J ?_);refine Yb (L':=[]) [0,3,2,1,3,2] J J J J ?_;refine AS fun _ ga Ca g E=>?_;have h:=Uc h;have k104:=Ua k104;have k107:=Ua k107;refine Yl ?_;refine TK [0,2,3] ?_;refine AS fun _ ga Ca g E=>?_;have h:=Uc h;have k104:=Ua k104;have k107:=Ua k107;refine RTN ?_;have e:stQ l sz x S=(mkN 19 [] 0 (offQ l sz S) [(x.ex 1 (adv S)).1,(x.blk (x.ex 1 (adv S)).2).1],(x.blk (x.ex 1 (adv S)).2).2):=by unfold stQ;rw [e1,h4,h9,e11,e12];dsimp only [Wpg,Wog];rw [e13];rfl
   rw [e];exact ⟨Zy (t:=mkN 19 [] 0 (offQ l sz S) [_,_]) rfl (Wi (ks:=[_,_]) ⟨l108,Xq E.g0⟩ E.g0.row (Xy (k104.kdN q104) (Ys (k107.kdN q107))) (Aaa _)),h,g⟩;have e13:isQ l (adv S) [123]=true:=by simpa using h13
   refine AU ?_;refine Yr (gtP n0) [0,3,1,1,3,2] [0,0,2,7,15,31] mix KR [0,1,2,3,4,5] J ?_;have g:=gtd g;replace E:=E.dr;have h:=h.grow (G.drew _);refine Ye 0 J J (fun w1 hx=>Zq Zj (Zc J) J (fun _=>(E.g0.gt hx J).row)) (Zt 1 J J (fun _=>Zm (Zc J)) (Zk 2 J J ?_));refine Zh (L':=[3,4,5]) [0,3,2,1,3,2] J J J ?_;refine CL (PkN.to (K.blk) [b2,b3,b5] h O (E.ltm Ob) g.size) ?_;rintro v107 w107 ⟨⟨p107,c107,rfl,q107,k107⟩,h,g107⟩;refine ⟨nw1,?_⟩;have g:=g.trans g107;replace E:=E.gt g107 rfl;refine Zr (g107) ?_;refine Zk 3 J J ?_;refine Zh (L':=[4,5]) [0,3,2,1,3,2] J J J ?_;refine CN fun _ _ N108 l108 g E=>?_;have k107:=k107.new N108;have h:=h.grow (N108.g);refine Zr (GT.of_g (N108.g)) ?_;refine Zt 4 J J (fun _=>Zg Zf (Zc J)) (Zk 5 J J ?_);refine Yb (L':=[]) [0,3,2,1,3,2] J J J J ?_;refine AS fun _ ga Ca g E=>?_;have h:=Uc h;have k107:=Ua k107;refine Yl ?_;refine TK [0,2,3] ?_;refine AS fun _ ga Ca g E=>?_;have h:=Uc h;have k107:=Ua k107;refine RTN ?_;have e:stQ l sz x S=(mkN 19 [] 0 (offQ l sz S) [nonN,(x.blk (adv S)).1],(x.blk (adv S)).2):=by unfold stQ;rw [e1,h4,h9,e11,e12];dsimp only [Wpg,Wog];rw [e13];rfl
   rw [e];exact ⟨Zy (t:=mkN 19 [] 0 (offQ l sz S) [nonN,_]) rfl (Wi (ks:=[nonN,_]) ⟨l108,Xq E.g0⟩ E.g0.row (Xy (Vj _ _) (Ys (k107.kdN q107))) (Aaa _)),h,g⟩;have e12:isQ l S [102,111,114]=false:=h12;refine IF (fun h14=>?_) fun h14=>?_;have e14:isQ l S [114,101,116,117,114,110]=true:=h14;have hadv:=(Vh e14 Od).2;have hp:=Us e14 Od;have na:=(Xp e14 Od).num hi;refine AU ?_;refine Yc J Wz (Zc J) (Zc J) J h.B J J ?_;intro wS40 hgS40 _ BS;replace E:=E.keepT hgS40 h.B rfl;have g:=Uw g hgS40 h.B rfl h.hb;have h:=h.adv hgS40 BS (by first|assumption|omega);refine AS fun _ ga Ca g E=>?_;have h:=Uc h;refine AU ?_;refine Xe [3,1,3,3,3,1,3,3,3,3,3,3,0,3,3,3,0,3,3,3] [true,true,true,true,true,true,true,true,true,true,true,true,true,true,true,true,true,true,true,true] [0,1,3,7,15,31,63,127,255,511,1023,2047,4095,511,8703,25087,57855,123391,262143,524287] mix KR ?_;have g:=gtd g;replace E:=E.dr;have h:=h.grow (G.drew _);refine AU ?_;refine CL (Wya [59] h) ?_;rintro _ _ ⟨rfl,ga⟩;refine RC fun g E=>?_;have h:=Uk h;refine AU ?_;refine CG (fun hc=>Wya [125] h) (fun w126 g126=>?_);have g:=gtg g g126;replace E:=E.grow g126;have h:=h.grow (g126);refine IF (fun h15=>?_) fun h15=>?_;replace h15:((!isQ l (adv S) [59] && !isQ l (adv S) [125])&&decide (((adv S).ix:Int)<l.length))=true:=h15;skip;refine AU ?_;refine CL (PkN.to (K.ex 1 O) [b2,b3] h O (E.ltm Ob) g.size) ?_;rintro _ _ ⟨⟨p142,c142,rfl,q142,k142⟩,h,ga⟩;refine RC fun g E=>?_;refine CN fun _ _ ga l143 g E=>?_;have k142:=Uj k142;have h:=Ui h;refine AS fun _ ga Ca g E=>?_;have h:=Uc h;have k142:=Ua k142
   refine AS fun _ ga Ca g E=>?_;have h:=Uc h;have k142:=Ua k142;refine RTN ?_;have e:stQ l sz x S=(mkN 20 [] 0 (offQ l sz S) [(x.ex 1 (adv S)).1],(x.ex 1 (adv S)).2):=by unfold stQ;rw [e1,h4,h9,e11,e12,e14];dsimp only [Wpg,Wog];rw [h15];rfl
   rw [e];exact ⟨Zy (t:=mkN 20 [] 0 (offQ l sz S) [_]) rfl (Wi (ks:=[_]) ⟨l143,Xq E.g0⟩ E.g0.row (Ys (k142.kdN q142)) (Aaa _)),h,g⟩;replace h15:((!isQ l (adv S) [59] && !isQ l (adv S) [125])&&decide (((adv S).ix:Int)<l.length))=false:=h15;skip;refine AS fun _ ga Ca g E=>?_;have h:=Uc h;refine RTN ?_;have e:stQ l sz x S=(mkN 20 [] 0 (offQ l sz S) [],adv S):=by unfold stQ;rw [e1,h4,h9,e11,e12,e14];dsimp only [Wpg,Wog];rw [h15];rfl
   rw [e];exact ⟨Zy (t:=mkN 20 [] 0 (offQ l sz S) []) rfl (Vj _ _),h,g⟩;have e14:isQ l S [114,101,116,117,114,110]=false:=h14;refine IF (fun h16=>?_) fun h16=>?_;have e16:isQ l S [115,101,108,101,99,116]=true:=h16;have hadv:=(Vh e16 Od).2;have hp:=Us e16 Od;have na:=(Xp e16 Od).num hi;refine AU ?_;refine CL (PkN.to (K.sel) [b2,b3] h O (E.ltm Ob) g.size) ?_;rintro _ _ ⟨⟨p149,c149,rfl,q149,k149⟩,h,ga⟩;refine RC fun g E=>?_;refine AS fun _ ga Ca g E=>?_;have h:=Uc h;have k149:=Ua k149;refine RTN ?_;have e:stQ l sz x S=x.sel S:=by unfold stQ;rw [e1,h4,h9,e11,e12,e14,e16];rfl
   rw [e];exact ⟨Zy rfl (k149.kdN q149),h,g⟩;have e16:isQ l S [115,101,108,101,99,116]=false:=h16;refine IF (fun h17=>?_) fun h17=>?_;have e17:isQ l S [123]=true:=h17;have hadv:=(Vh e17 Od).2;have hp:=Us e17 Od;have na:=(Xp e17 Od).num hi;refine AU ?_;refine CL (PkN.to (K.blk) [b2,b3] h O (E.ltm Ob) g.size) ?_;rintro _ _ ⟨⟨p153,c153,rfl,q153,k153⟩,h,ga⟩;refine RC fun g E=>?_;refine AS fun _ ga Ca g E=>?_;have h:=Uc h;have k153:=Ua k153;refine RTN ?_;have e:stQ l sz x S=x.blk S:=by unfold stQ;rw [e1,h4,h9,e11,e12,e14,e16,e17];rfl
   rw [e];exact ⟨Zy rfl (k153.kdN q153),h,g⟩;have e17:isQ l S [123]=false:=h17;refine AU ?_;refine CL (PkN.to (K.sim false) [b2,b3] h O (E.ltm Ob) g.size) ?_;rintro _ _ ⟨⟨p155,c155,rfl,q155,k155⟩,h,ga⟩;refine RC fun g E=>?_;refine AS fun _ ga Ca g E=>?_;have h:=Uc h;have k155:=Ua k155;refine RTN ?_;have e:stQ l sz x S=x.sim false S:=by unfold stQ;rw [e1,h4,h9,e11,e12,e14,e16,e17];rfl
   rw [e];exact ⟨Zy rfl (k155.kdN q155),h,g⟩
end
set_option maxHeartbeats 2000000
theorem Udd(l:List UInt8)(hd:allD l)(hne:l≠[])(hl:l.length≤20000)(w:Aa):Ret PP 124 #[Str l] w fun v w'=>v = .tuple #[.int .i64 (intQ l),.bool (intOk l)]∧G w w':=by
 have g:=G.refl w;refine WK 46 [0] Tryz.func124 ?_;refine AU ?_;refine Zv J J J (fun _=>Qp Yq (Zz J id) Xh (fun hc=>by have:=Wmg hc.2;omega)) ?_;refine IF (fun h1=>?_) fun h1=>?_
 ·have hN:intOk l=false∧intQ l=0:=by
   rw [intOk,intQ];rw [Whg hne,Ada] at h1;by_cases h19:l.length≤19
   ·rw [Whg (by omega:¬ (19:Int)<l.length),Ada] at h1
    replace h1:(decide ((1:Int)<l.length)&&decide (cAt l 0=48))=true:=h1;rw [h1];exact ⟨by simp,by simp⟩
   · rw [Whg h19];exact ⟨rfl,rfl⟩
  refine RTN ?_;exact ⟨by rw [hN.1,hN.2],g⟩
 have h19:l.length≤19:=by
  cases h0:decide ((19:Int)<l.length)
  · have:=Wng h0;omega
  · rw [h0] at h1;simp at h1
 have hN:intOk l=decide ((valN 0 l:Int)<9223372036854775808)∧intQ l=IntKind.i64.wrap (valN 0 l:Nat):=by
  rw [intOk,intQ];rw [Whg hne,Whg (by omega:¬ (19:Int)<l.length),Ada,Ada] at h1;replace h1:(decide ((1:Int)<l.length)&&decide (cAt l 0=48))=false:=h1;rw [h1,Wig h19,Bool.not_false,Bool.and_true,Ala];exact ⟨rfl,Wpg _ _⟩
 have h10:(10:Nat) ^ 19=10000000000000000000:=by decide
 refine AU ?_;refine Xva (fun (i:Nat) u=>i≤l.length∧G w u) (fun i=>[(0,True,Str l),(4,True,.int .u64 (valN 0 (l.take i):Nat)),(5,True,.int .i64 i)]) (fun i=>l.length-i) 0 ⟨O,g⟩ (Za J (Za J (Za J (Zo _)))) ?_;rintro i u ⟨hi,g⟩;refine IF (fun h2=>?_) fun h2=>?_
 ·replace h2:i<l.length:=by simp only [Wkg] at h2;omega
  obtain ⟨e,hb,hc1,hc2⟩:=Jtc h2 hd;have hb2:valN 0 (l.take i)<10 ^ 18:=Nat.lt_of_lt_of_le hb (Asa Od O);have h18:(10:Nat) ^ 18=1000000000000000000:=by decide
  rw [h18] at hb2;refine AU ?_;refine CP (Ynb _ _) (fun w32 g32=>?_);have g:=g.trans g32;refine IF (fun h3=>?_) fun h3=>?_
  ·exfalso
   replace h3:(!digitB (cAt l i))=true:=h3;rw [digitB,Wig hc1,Wig hc2] at h3;cases h3;done
  skip;refine Yp (kq (Ws [3,3,3,3,3,3,3,3,3] (Zx J (Zs J (fun _=>Zee (r:=10*((valN 0 (l.take i):Nat):Int)) Xh (Zc J) (fun hc=>Zuc ⟨O,O⟩)) (Zx J (Zx J (Zs J (fun _=>Qp Yq (Zc J) (Zc J) (fun _=>O)) (Zs J (fun _=>Jab (r:=cAt l i-48) (Zc J) Xh (fun hc=>Jjf ⟨by show 0≤cAt l i-48;omega,by show cAt l i-48≤255;omega⟩)) (Zs J (fun _=>Xtd (r:=cAt l i-48) Xxd Vlb (Zc J) (fun hc=>Zuc ⟨O,O⟩)) (Zs J (fun _=>Zde (r:=((valN 0 (l.take (i+1)):Nat):Int)) (Zc J) (Zc J) (fun hc=>(by rw [e];exact Zuc ⟨O,O⟩))) (Xc J (Ze (kq (Zu (Zx J (Vta J J O (Xc J (?_))))))))))))))))));refine Wp [(0,_,_),(4,_,_),(5,_,_)] (Za J (Za J (Za J (Zo _)))) (Ze (fun a ha=>?_));exact ⟨i+1,ha,⟨h2,g⟩,O⟩
 have hi:i=l.length:=by simp only [Wlg] at h2;omega
 subst hi;refine Jp J (kq (Zn (Ws [3,3,3,3,3,3] (Zx J (Zs J (fun _=>Zdd Vlb Uoe (Zc J)) (Zx J (Znb J J (Xc J (Xc J (Ze (kq (Xw (Yqb (ts:=[2,3]) (vs:=[_,_]) J J J ?_)))))))))))));refine ⟨?_,g⟩;rw [hN.1,hN.2];have e:l.take l.length=l:=List.take_length;rw [e]
def TkOk(l:List Tok):Prop:=∀ t∈l,t.kind=2→allD t.text∧t.text≠[]∧t.text.length≤20000
section
variable {l:List Tok} {sz:Int} {m:Nat} {x:Pz}
theorem Xgg(ht:TkOk l)(X:PzD l x)(K:PzOk l sz m x):PkN l sz (m+1) 0 166 [] (opdQ l sz x):=by
 intro n0 b tc tp S w h hm;have hi:=h.hi;have hl:=h.hl;have hlt:=h.lt;have g:=GT.refl mutP n0 w;refine WK 165 [0] Tryz.func166 ?_;refine AM fun b2 _ ga _ g E=>?_;have h:=Ui h;refine AU ?_;refine CL (Vt h) ?_;rintro _ _ ⟨rfl,ga⟩;refine RC fun g E=>?_;have h:=Uk h;refine AN fun b3 _ ga _ g E=>?_;have h:=Ui h;refine AS fun _ ga Ca g E=>?_;have h:=Uc h;refine AU ?_;refine CL (Vvb 1 0 O h) ?_;rintro _ _ ⟨rfl,ga⟩;refine RC fun g E=>?_;have h:=Uk h;refine IF (fun h1=>?_) fun h1=>?_;have e1:isK l S 1 0=true:=h1;refine AS fun _ ga Ca g E=>?_;have h:=Uc h;refine AU ?_;refine CL (Vra h) ?_;rintro _ _ ⟨rfl,h,ga⟩;refine RC fun g E=>?_;refine AS fun _ ga Ca g E=>?_;have h:=Uc h;refine AS fun _ ga Ca g E=>?_;have h:=Uc h;refine RTN ?_;have e:opdQ l sz x S=(mkN 27 (nameQ l S).1 0 (offQ l sz S) [],(nameQ l S).2):=by unfold opdQ;rw [e1];rfl
 rw [e];exact ⟨Zy (t:=mkN 27 (nameQ l S).1 0 (offQ l sz S) []) rfl (Vj _ _),h,g⟩;have e1:isK l S 1 0=false:=h1;refine AU ?_;refine CL (Vvb 2 0 O h) ?_;rintro _ _ ⟨rfl,ga⟩;refine RC fun g E=>?_;have h:=Uk h;refine IF (fun h2=>?_) fun h2=>?_;have e2:isK l S 2 0=true:=h2;have hadv:S.ix<l.length:=(Uwc e2).2
 have hk2:(tkn l S.ix).kind=2:=by
  have:=(Aka.1 e2).2;exact Wmg this
 have hmem:tkn l S.ix∈l:=by
  have e:tkn l S.ix=l[S.ix]:=by simp [tkn,Ata,Aua hadv]
  rw [e];exact List.getElem_mem hadv
 obtain ⟨t1,t2,t3⟩:=ht _ hmem hk2;refine AS fun _ ga Ca g E=>?_;have h:=Uc h;refine Ze (kq (Zn (Xe [3,3,3,0,3,3,3,0,3,3,0,1,3,3,3,3,2] [true,true,true,true,true,true,true,true,true,true,true,true,true,true,true,true,true] [0,1,3,7,0,16,48,112,255,511,1023,2047,4095,8191,8191,16383,49151] mix KR ?_)));have g:=gtd g;replace E:=E.dr;have h:=h.grow (G.drew _);refine Zx J (Un J (Xm Ue J (Xr Vf J (h.B.at_ J) (Zx J (Un J (Xm Qc J (Xr Yk J (h.B.at_ J) (Zs J (fun _=>Xs Yv (Zc J) (Zc J) (fun hc=>O) (fun hc=>(Xec h.ht S.ix hadv).1)) (Xm Qh J (Ut J (Zw Xb (Zc J) (fun hc=>((Xec h.ht S.ix hadv).2).one (i:=1) J)) (Ub J (Yd Xzb Ve (aqc J aq0) J) (Udd (tkn l S.ix).text t1 t2 t3 _) (fun w29 g29=>?_))))))))))));have g:=gtg g g29;replace E:=E.grow g29;have h:=h.grow (g29);refine AS fun _ ga Ca g E=>?_;have h:=Uc h;refine AU ?_;refine Yc J Wz (Zc J) (Zc J) J h.B J J ?_;intro wS7 hgS7 _ BS;replace E:=E.keepT hgS7 h.B rfl;have g:=Uw g hgS7 h.B rfl h.hb;have h:=h.adv hgS7 BS (by first|assumption|omega);refine AS fun _ ga Ca g E=>?_;have h:=Uc h;refine RTN ?_;have e:opdQ l sz x S=(mkN 24 [] (intQ (tkn l S.ix).text) (offQ l sz S) [],adv S):=by unfold opdQ;rw [e1,e2];rfl
 rw [e];exact ⟨Zy (t:=mkN 24 [] (intQ (tkn l S.ix).text) (offQ l sz S) []) rfl (Vj _ _),h,g⟩;have e2:isK l S 2 0=false:=h2;refine AU ?_;refine CL (Vqa 0 O h) ?_;rintro _ _ ⟨rfl,ga⟩;refine RC fun g E=>?_;have h:=Uk h;refine AU ?_;refine' OR [0,2,3,42] (fun hb3=>?y3) (kq ?n3)
 case y3 =>
  refine AU ?_;refine SK [45,0,2,3,42] ?_;exact Ze knr
 case n3 =>
  refine IF (fun h4=>?_) fun h4=>?_;replace h4:(isQ l S [116,114,117,101] || isQ l S [102,97,108,115,101])=true:=h4
  have hadv:S.ix<l.length:=by
   rcases Afa.1 h4 with q|q;exact (Vh q Od).2;exact (Vh q Od).2
  refine AS fun _ ga Ca g E=>?_;have h:=Uc h;refine AU ?_;refine CL (Wya [116,114,117,101] h) ?_;rintro _ _ ⟨rfl,ga⟩;refine RC fun g E=>?_;have h:=Uk h;refine IF (fun h5=>?_) fun h5=>?_;have e5:isQ l S [116,114,117,101]=true:=h5;refine AS fun _ ga Ca g E=>?_;have h:=Uc h;refine AU ?_;refine Yc J Wz (Zc J) (Zc J) J h.B J J ?_;intro wS11 hgS11 _ BS;replace E:=E.keepT hgS11 h.B rfl;have g:=Uw g hgS11 h.B rfl h.hb;have h:=h.adv hgS11 BS (by first|assumption|omega);refine AS fun _ ga Ca g E=>?_;have h:=Uc h;refine RTN ?_;have e:opdQ l sz x S=(mkN 25 [] 1 (offQ l sz S) [],adv S):=by unfold opdQ;rw [e1,e2,h4];dsimp only [Wpg,Wog];rw [e5];rfl
  rw [e];exact ⟨Zy (t:=mkN 25 [] 1 (offQ l sz S) []) rfl (Vj _ _),h,g⟩;have e5:isQ l S [116,114,117,101]=false:=h5;refine AU ?_;refine Yc J Wz (Zc J) (Zc J) J h.B J J ?_;intro wS13 hgS13 _ BS;replace E:=E.keepT hgS13 h.B rfl;have g:=Uw g hgS13 h.B rfl h.hb;have h:=h.adv hgS13 BS (by first|assumption|omega);refine AS fun _ ga Ca g E=>?_;have h:=Uc h;refine RTN ?_;have e:opdQ l sz x S=(mkN 25 [] 0 (offQ l sz S) [],adv S):=by unfold opdQ;rw [e1,e2,h4];dsimp only [Wpg,Wog];rw [e5];rfl
  rw [e];exact ⟨Zy (t:=mkN 25 [] 0 (offQ l sz S) []) rfl (Vj _ _),h,g⟩;replace h4:(isQ l S [116,114,117,101] || isQ l S [102,97,108,115,101])=false:=h4;skip;refine IF (fun h6=>?_) fun h6=>?_;have e6:isQ l S [110,105,108]=true:=h6;have hadv:=(Vh e6 Od).2;have hp:=Us e6 Od;have na:=(Xp e6 Od).num hi;refine AS fun _ ga Ca g E=>?_;have h:=Uc h;refine AU ?_;refine Yc J Wz (Zc J) (Zc J) J h.B J J ?_;intro wS16 hgS16 _ BS;replace E:=E.keepT hgS16 h.B rfl;have g:=Uw g hgS16 h.B rfl h.hb;have h:=h.adv hgS16 BS (by first|assumption|omega);refine AS fun _ ga Ca g E=>?_;have h:=Uc h;refine RTN ?_;have e:opdQ l sz x S=(mkN 26 [] 0 (offQ l sz S) [],adv S):=by unfold opdQ;rw [e1,e2,h4,e6];rfl
  rw [e];exact ⟨Zy (t:=mkN 26 [] 0 (offQ l sz S) []) rfl (Vj _ _),h,g⟩;have e6:isQ l S [110,105,108]=false:=h6;refine IF (fun h7=>?_) fun h7=>?_;have e7:isQ l S [40]=true:=h7;have hadv:=(Vh e7 Od).2;have hp:=Us e7 Od;have na:=(Xp e7 Od).num hi;refine AU ?_;refine Yc J Wz (Zc J) (Zc J) J h.B J J ?_;intro wS18 hgS18 _ BS;replace E:=E.keepT hgS18 h.B rfl;have g:=Uw g hgS18 h.B rfl h.hb;have h:=h.adv hgS18 BS (by first|assumption|omega);refine AU ?_;refine CL (PkN.to (K.ex 1 O) [b2,b3] h O (E.ltm Ob) g.size) ?_;rintro _ _ ⟨⟨p79,c79,rfl,q79,k79⟩,h,ga⟩;refine RC fun g E=>?_;refine AS fun _ ga Ca g E=>?_;have h:=Uc h;have k79:=Ua k79;refine AU ?_;refine CL (Wg [41] Od h) ?_;rintro _ _ ⟨rfl,h,ga⟩;refine RC fun g E=>?_;have k79:=k79.gtp ga;refine AS fun _ ga Ca g E=>?_;have h:=Uc h;have k79:=Ua k79;refine RTN ?_;have e:opdQ l sz x S=((x.ex 1 (adv S)).1,takeQ l [41] (x.ex 1 (adv S)).2):=by unfold opdQ;rw [e1,e2,h4,e6,e7];rfl
  rw [e];exact ⟨Zy rfl (k79.kdN q79),h,g⟩;have e7:isQ l S [40]=false:=h7;refine IF (fun h8=>?_) fun h8=>?_;have e8:isQ l S [110,101,119]=true:=h8;have hadv:=(Vh e8 Od).2;have hp:=Us e8 Od;have na:=(Xp e8 Od).num hi;refine AS fun _ ga Ca g E=>?_;have h:=Uc h;refine AU ?_;refine Yc J Wz (Zc J) (Zc J) J h.B J J ?_;intro wS22 hgS22 _ BS;replace E:=E.keepT hgS22 h.B rfl;have g:=Uw g hgS22 h.B rfl h.hb;have h:=h.adv hgS22 BS (by first|assumption|omega);refine AU ?_;refine CL (Wg [40] Od h) ?_;rintro _ _ ⟨rfl,h,ga⟩;refine RC fun g E=>?_;refine AU ?_;refine CL (Vra h) ?_;rintro _ _ ⟨rfl,h,ga⟩;refine RC fun g E=>?_;refine AS fun _ ga Ca g E=>?_;have h:=Uc h;refine AU ?_;refine CL (Wg [41] Od h) ?_;rintro _ _ ⟨rfl,h,ga⟩;refine RC fun g E=>?_;refine AS fun _ ga Ca g E=>?_;have h:=Uc h;refine RTN ?_;have e:opdQ l sz x S=(mkN 34 (nameQ l (takeQ l [40] (adv S))).1 0 (offQ l sz S) [],takeQ l [41] (nameQ l (takeQ l [40] (adv S))).2):=by unfold opdQ;rw [e1,e2,h4,e6,e7,e8];rfl
  rw [e];exact ⟨Zy (t:=mkN 34 (nameQ l (takeQ l [40] (adv S))).1 0 (offQ l sz S) []) rfl (Vj _ _),h,g⟩;have e8:isQ l S [110,101,119]=false:=h8;refine IF (fun h9=>?_) fun h9=>?_;have e9:isQ l S [108,101,110]=true:=h9;have hadv:=(Vh e9 Od).2;have hp:=Us e9 Od;have na:=(Xp e9 Od).num hi;have nb:=((Xp e9 Od).trans (Wu (s:=[40]) Od _)).num hi;refine AS fun _ ga Ca g E=>?_;have h:=Uc h;refine AU ?_;refine Yc J Wz (Zc J) (Zc J) J h.B J J ?_;intro wS26 hgS26 _ BS;replace E:=E.keepT hgS26 h.B rfl;have g:=Uw g hgS26 h.B rfl h.hb;have h:=h.adv hgS26 BS (by first|assumption|omega);refine AU ?_;refine CL (Wg [40] Od h) ?_;rintro _ _ ⟨rfl,h,ga⟩;refine RC fun g E=>?_;refine AU ?_;refine CL (PkN.to (K.ex 1 O) [b2,b3] h O (E.ltm Ob) g.size) ?_;rintro _ _ ⟨⟨p112,c112,rfl,q112,k112⟩,h,ga⟩;refine RC fun g E=>?_;refine CN fun _ _ ga l113 g E=>?_;have k112:=Uj k112;have h:=Ui h;refine AS fun _ ga Ca g E=>?_;have h:=Uc h;have k112:=Ua k112;refine AU ?_;refine CL (Wg [41] Od h) ?_;rintro _ _ ⟨rfl,h,ga⟩;refine RC fun g E=>?_;have k112:=k112.gtp ga;refine AS fun _ ga Ca g E=>?_;have h:=Uc h;have k112:=Ua k112;refine RTN ?_;have e:opdQ l sz x S=(mkN 37 [] 0 (offQ l sz S) [(x.ex 1 (takeQ l [40] (adv S))).1],takeQ l [41] (x.ex 1 (takeQ l [40] (adv S))).2):=by unfold opdQ;rw [e1,e2,h4,e6,e7,e8,e9];rfl
  rw [e];exact ⟨Zy (t:=mkN 37 [] 0 (offQ l sz S) [_]) rfl (Wi (ks:=[_]) ⟨l113,Xq E.g0⟩ E.g0.row (Ys (k112.kdN q112)) (Aaa _)),h,g⟩;have e9:isQ l S [108,101,110]=false:=h9;refine IF (fun h10=>?_) fun h10=>?_;have e10:isQ l S [109,97,107,101]=true:=h10;have hadv:=(Vh e10 Od).2;have hp:=Us e10 Od;have na:=(Xp e10 Od).num hi;have nb:=((Xp e10 Od).trans ((Wu (s:=[40]) Od _).tle (Yue _))).num hi;refine AU ?_;refine Yc J Wz (Zc J) (Zc J) J h.B J J ?_;intro wS29 hgS29 _ BS;replace E:=E.keepT hgS29 h.B rfl;have g:=Uw g hgS29 h.B rfl h.hb;have h:=h.adv hgS29 BS (by first|assumption|omega);refine AU ?_;refine CL (Wg [40] Od h) ?_;rintro _ _ ⟨rfl,h,ga⟩;refine RC fun g E=>?_;refine AS fun _ ga Ca g E=>?_;have h:=Uc h;refine AU ?_;refine CL (Jt [99,104,97,110] Od h) ?_;rintro _ _ ⟨rfl,h,ga⟩;refine RC fun g E=>?_;refine IF (fun h11=>?_) fun h11=>?_;have e11:isQ l (takeQ l [40] (adv S)) [99,104,97,110]=true:=h11;rw [e11] at h;simp only [Wpg] at h;refine AS fun _ ga Ca g E=>?_;have h:=Uc h;refine AU ?_;refine CL (Wg [105,110,116] Od h) ?_;rintro _ _ ⟨rfl,h,ga⟩;refine RC fun g E=>?_;refine AU ?_;refine CL (Wg [44] Od h) ?_;rintro _ _ ⟨rfl,h,ga⟩;refine RC fun g E=>?_;refine AU ?_;have em:mkeQ l (takeQ l [40] (adv S))=takeQ l [44] (takeQ l [105,110,116] (bif isQ l (takeQ l [40] (adv S)) [99,104,97,110] then adv (takeQ l [40] (adv S)) else takeQ l [93] (takeQ l [91] (takeQ l [40] (adv S))))):=rfl;rw [e11] at em;simp only [Wpg,Wog] at em;rw [← em] at h;refine CL (PkN.to (K.ex 1 O) [b2,b3] h O (E.ltm Ob) g.size) ?_;rintro _ _ ⟨⟨p141,c141,rfl,q141,k141⟩,h,ga⟩
  refine RC fun g E=>?_;refine CN fun _ _ ga l142 g E=>?_;have k141:=Uj k141;have h:=Ui h;refine AS fun _ ga Ca g E=>?_;have h:=Uc h;have k141:=Ua k141;refine AU ?_;refine CL (Wg [41] Od h) ?_;rintro _ _ ⟨rfl,h,ga⟩;refine RC fun g E=>?_;have k141:=k141.gtp ga;refine AS fun _ ga Ca g E=>?_;have h:=Uc h;have k141:=Ua k141;refine RTN ?_;have e:opdQ l sz x S=(mkN 36 [] 0 (offQ l sz S) [(x.ex 1 (mkeQ l (takeQ l [40] (adv S)))).1],takeQ l [41] (x.ex 1 (mkeQ l (takeQ l [40] (adv S)))).2):=by unfold opdQ;rw [e1,e2,h4,e6,e7,e8,e9,e10];dsimp only [Wpg,Wog];rw [e11];rfl
  rw [e];exact ⟨Zy (t:=mkN 36 [] 0 (offQ l sz S) [_]) rfl (Wi (ks:=[_]) ⟨l142,Xq E.g0⟩ E.g0.row (Ys (k141.kdN q141)) (Aaa _)),h,g⟩;have e11:isQ l (takeQ l [40] (adv S)) [99,104,97,110]=false:=h11;rw [e11] at h;simp only [Wog] at h;refine AU ?_;refine CL (Wg [91] Od h) ?_;rintro _ _ ⟨rfl,h,ga⟩;refine RC fun g E=>?_;refine AU ?_;refine CL (Wg [93] Od h) ?_;rintro _ _ ⟨rfl,h,ga⟩;refine RC fun g E=>?_;refine AU ?_;refine CL (Wg [105,110,116] Od h) ?_;rintro _ _ ⟨rfl,h,ga⟩;refine RC fun g E=>?_;refine AU ?_;refine CL (Wg [44] Od h) ?_;rintro _ _ ⟨rfl,h,ga⟩;refine RC fun g E=>?_;refine AU ?_;have em:mkeQ l (takeQ l [40] (adv S))=takeQ l [44] (takeQ l [105,110,116] (bif isQ l (takeQ l [40] (adv S)) [99,104,97,110] then adv (takeQ l [40] (adv S)) else takeQ l [93] (takeQ l [91] (takeQ l [40] (adv S))))):=rfl;rw [e11] at em;simp only [Wpg,Wog] at em;rw [← em] at h;refine CL (PkN.to (K.ex 1 O) [b2,b3] h O (E.ltm Ob) g.size) ?_;rintro _ _ ⟨⟨p141,c141,rfl,q141,k141⟩,h,ga⟩;refine RC fun g E=>?_;refine CN fun _ _ ga l142 g E=>?_;have k141:=Uj k141;have h:=Ui h;refine AS fun _ ga Ca g E=>?_;have h:=Uc h;have k141:=Ua k141;refine AU ?_;refine CL (Wg [41] Od h) ?_;rintro _ _ ⟨rfl,h,ga⟩;refine RC fun g E=>?_;have k141:=k141.gtp ga;refine AS fun _ ga Ca g E=>?_;have h:=Uc h;have k141:=Ua k141;refine RTN ?_;have e:opdQ l sz x S=(mkN 35 [] 0 (offQ l sz S) [(x.ex 1 (mkeQ l (takeQ l [40] (adv S)))).1],takeQ l [41] (x.ex 1 (mkeQ l (takeQ l [40] (adv S)))).2):=by unfold opdQ;rw [e1,e2,h4,e6,e7,e8,e9,e10];dsimp only [Wpg,Wog];rw [e11];rfl
  rw [e];exact ⟨Zy (t:=mkN 35 [] 0 (offQ l sz S) [_]) rfl (Wi (ks:=[_]) ⟨l142,Xq E.g0⟩ E.g0.row (Ys (k141.kdN q141)) (Aaa _)),h,g⟩;have e10:isQ l S [109,97,107,101]=false:=h10;refine IF (fun h12=>?_) fun h12=>?_;have e12:isQ l S [102,117,110,99]=true:=h12;have hadv:=(Vh e12 Od).2;have hp:=Us e12 Od;have na:=(Xp e12 Od).num hi;have nb:=((Xp e12 Od).trans ((Wu (s:=[40]) Od _).trans (Wu (s:=[41]) Od _))).num hi;refine AS fun _ ga Ca g E=>?_;have h:=Uc h;refine AU ?_;refine Yc J Wz (Zc J) (Zc J) J h.B J J ?_;intro wS37 hgS37 _ BS;replace E:=E.keepT hgS37 h.B rfl;have g:=Uw g hgS37 h.B rfl h.hb;have h:=h.adv hgS37 BS (by first|assumption|omega);refine AU ?_;refine CL (Wg [40] Od h) ?_;rintro _ _ ⟨rfl,h,ga⟩;refine RC fun g E=>?_;refine AU ?_;refine CL (Wg [41] Od h) ?_;rintro _ _ ⟨rfl,h,ga⟩;refine RC fun g E=>?_;refine AU ?_;refine CL (PkN.to (K.blk) [b2,b3] h O (E.ltm Ob) g.size) ?_;rintro _ _ ⟨⟨p161,c161,rfl,q161,k161⟩,h,ga⟩;refine RC fun g E=>?_;refine CN fun _ _ ga l162 g E=>?_;have k161:=Uj k161;have h:=Ui h;refine AS fun _ ga Ca g E=>?_;have h:=Uc h;have k161:=Ua k161;refine AS fun _ ga Ca g E=>?_;have h:=Uc h;have k161:=Ua k161;refine RTN ?_;have e:opdQ l sz x S=(mkN 38 [] 0 (offQ l sz S) [(x.blk (takeQ l [41] (takeQ l [40] (adv S)))).1],(x.blk (takeQ l [41] (takeQ l [40] (adv S)))).2):=by unfold opdQ;rw [e1,e2,h4,e6,e7,e8,e9,e10,e12];rfl
  rw [e];exact ⟨Zy (t:=mkN 38 [] 0 (offQ l sz S) [_]) rfl (Wi (ks:=[_]) ⟨l162,Xq E.g0⟩ E.g0.row (Ys (k161.kdN q161)) (Aaa _)),h,g⟩;have e12:isQ l S [102,117,110,99]=false:=h12;refine AU ?_;refine CL (Wqa h) ?_;rintro _ _ ⟨rfl,h,ga⟩;refine RC fun g E=>?_;refine AS fun _ ga Ca g E=>?_;have h:=Uc h;refine RTN ?_;have e:opdQ l sz x S=(mkN 0 [] 0 (offQ l sz S) [],failQ S):=by unfold opdQ;rw [e1,e2,h4,e6,e7,e8,e9,e10,e12];rfl
  rw [e];exact ⟨Zy (t:=mkN 0 [] 0 (offQ l sz S) []) rfl (Vj _ _),h,g⟩
end
section
variable {l:List Tok} {sz:Int} {m:Nat} {x:Pz}
theorem Yya{rk:Nat}{fn:FuncId}{a:List Ba}{X:PSt→Nd×PSt}:PkN l sz 0 rk fn a X:=fun _ h=>absurd h (Nat.not_lt_zero _)
theorem Xhg:PzOk l sz 0 pz0 :=
 ⟨fun c=>by
 intro n0 b tc tp S w h hm;have hb:S.bad=true:=hm.elim id (fun h=>absurd h (Nat.not_lt_zero _));have H:=Ucd (m:=0) (x:=pz0) (sz:=sz) Jxf Yya c h (.inl hb);have hc:stsC l c S=false:=by unfold stsC;rw [hb];rfl
 have e:stsQ l pz0 c S=([],S):=by unfold stsQ;rw [stsL,hc];rfl
 rw [e] at H;exact H,Yya,Yya,Yya,fun _=>Yya,Yya,Yya,fun _ _=>Yya,Yya,Yya,Yya⟩
theorem Xig(ht:TkOk l)(X:PzD l x)(K:PzOk l sz m x):PzOk l sz (m+1) (pzF l sz x) :=
 ⟨Ucd X K.st,Xgf X K,Xbg X K,Xcg X K,Xdg X K,Xfg X K,Qsf X K,ex_ok X K,un_ok X K,Xeg X K,Xgg ht X K⟩
theorem Xhf(ht:TkOk l):∀ n,PzOk l sz n (pzN l sz n)
 | 0=>Xhg
 | n+1=>Xig ht (Xdf n) (Xhf ht n)
end
set_option maxHeartbeats 2000000
section
variable {l:List Tok} {sz:Int} {m:Nat} {x:Pz}
theorem Xjd{T:PSt}:8*remQ l T+0<8*l.length+100:=by have:=Wsa (S:=T) (l:=l);omega
theorem Qtf(X:PzD l x)(K:PzOk l sz m x):PkN l sz (m+1) 0 41 [] (declQ l sz x):=by
 intro n0 b tc tp S w h hm;have hi:=h.hi;have hl:=h.hl;have hlt:=h.lt;have g:=GT.refl mutP n0 w;refine WK 109 [0] Tryz.func41 ?_;refine AM fun b2 _ ga _ g E=>?_;have h:=Ui h;refine AU ?_;refine CL (Vt h) ?_;rintro _ _ ⟨rfl,ga⟩;refine RC fun g E=>?_;have h:=Uk h;refine AN fun b3 _ ga _ g E=>?_;have h:=Ui h;refine AS fun _ ga Ca g E=>?_;have h:=Uc h;refine AU ?_;refine CL (Vqa 0 O h) ?_;rintro _ _ ⟨rfl,ga⟩;refine RC fun g E=>?_;have h:=Uk h;refine IF (fun h1=>?_) fun h1=>?_;have e1:isQ l S [116,121,112,101]=true:=h1;have hadv:=(Vh e1 Od).2;have r1:=Us e1 Od;have q1:=(Xp e1 Od).trans (Qw (adv S));have n1:=q1.num hi;refine AS fun _ ga Ca g E=>?_;have h:=Uc h;refine AU ?_;refine Yc J Wz (Zc J) (Zc J) J h.B J J ?_;intro wS3 hgS3 _ BS;replace E:=E.keepT hgS3 h.B rfl;have g:=Uw g hgS3 h.B rfl h.hb;have h:=h.adv hgS3 BS (by first|assumption|omega);refine AU ?_;refine CL (Vra h) ?_;rintro _ _ ⟨rfl,h,ga⟩;refine RC fun g E=>?_;refine AS fun _ ga Ca g E=>?_;have h:=Uc h;refine AU ?_;refine CL (Wg [115,116,114,117,99,116] Od h) ?_;rintro _ _ ⟨rfl,h,ga⟩;refine RC fun g E=>?_;refine AU ?_;refine CL (Wg [123] Od h) ?_;rintro _ _ ⟨rfl,h,ga⟩;refine RC fun g E=>?_;refine AU ?_;have hnd1:=E.1
 refine Ul (fun (y:Nat×List Nd×PSt) u1=>match y with|⟨f,acc,T⟩=>(PR l sz n0 b tp tc T u1∧strL l sz f acc T=strL l sz (l.length+2) [] (takeQ l [123] (takeQ l [115,116,114,117,99,116] (nameQ l (adv S)).2))∧remQ l T≤f∧acc.length+f≤l.length+2∧∃ s,Blk u1 b3 26 (ndCells (mkN 2 (nameQ l (adv S)).1 0 (offQ l sz S) []) s)∧OwnN [b2,b3] w.heap.size u1 acc s)∧GT mutP n0 w u1) _ [(0,True,_),(2,True,_),(3,True,_)] (fun (y:Nat×List Nd×PSt)=>match y with|⟨f,acc,T⟩=>[]) (fun (y:Nat×List Nd×PSt)=>match y with|⟨f,acc,T⟩=>f) ((l.length+2,[],(takeQ l [123] (takeQ l [115,116,114,117,99,116] (nameQ l (adv S)).2)))) ⟨⟨h,rfl,by have:=Wsa (S:=(takeQ l [123] (takeQ l [115,116,114,117,99,116] (nameQ l (adv S)).2))) (l:=l);omega,by simp,_,E.g0,Jo _ _ _⟩,g⟩ (Ya (blkE E.g1) (Xg _)) (Za J (Za J (Za J (Zo _)))) ?_;clear E;rintro ⟨f,acc,T⟩ u1 ⟨hI1,gl1⟩ ⟨B2,_⟩;replace B2:Blk _ _ _ _:=B2;have g:=gl1;obtain ⟨h,he,hf,hac,s,B3,hO⟩:=hI1;obtain ⟨sa,sc,rfl⟩:=hO.slice;have hOlt:=hO.lt;have hTi:=h.hi;have E:=Xoa (L:=[(b3,_,_),(b2,_,_)]) hnd1 ⟨B3,B2,trivial⟩ rfl;refine AU ?_;refine CG (fun hc=>Wya [125] h) (fun w37 g37=>?_);have g:=gtg g g37;replace E:=E.grow g37;have h:=h.grow (g37);have hO:=hO.grow (g37);refine IF (fun h2=>?_) fun h2=>?_;replace h2:(!T.bad && !isQ l T [125])=true:=h2;have hnb:T.bad=false:=by simpa using (Aka.1 h2).1
 have hp:=Wra (l:=l) hnb;obtain ⟨f',rfl⟩:∃ f',f=f'+1:=⟨f-1,O⟩;rw [strL,h2,Wpg] at he;have hn2:=(Wfa (sz:=sz) T).num hTi;have hn3:=(Wlc (l:=l) (fieldQ l sz T).2).num (Wfa (sz:=sz) T hTi).1;have hOlt:=hO.lt;refine AU ?_;refine Yr (gtP n0) [3,0,3,1,1,2,3,2] [0,1,0,4,12,31,63,127] mix KR [0,1,2,3,4,5,6,7] J ?_;have g:=gtd g;replace E:=E.dr;have h:=h.grow (G.drew _);have hO:=hO.grow (G.drew _);refine Zt 0 J J (fun _=>Zg Zf (Zc J)) (Ye 1 J J (fun w1 hx=>Zw Zi (Zc J) (fun _=>(E.g0.gt hx J).at_ J)) (Zt 2 J J (fun _=>Zm (Zc J)) (Zk 3 J J ?_)));refine Zh (L':=[4,5,6,7]) [3,0,3,2,1,2,3,2] J J J ?_;refine CL (PkN.to (Uzc) [b2,b3] h Xjd (E.ltm Ob) g.size) ?_;rintro v43 w43 ⟨⟨p43,c43,rfl,q43,k43⟩,h,g43⟩;refine ⟨nw1,?_⟩;have g:=g.trans g43;replace E:=E.gt g43 rfl;have hO:=hO.gt g43 rfl;refine Zr (g43) ?_;refine Zk 4 J J ?_;refine Zh (L':=[5,6,7]) [3,0,3,2,1,2,3,2] J J J ?_;refine CN fun _ _ N44 _ g E=>?_;have k43:=k43.new N44;have h:=h.grow (N44.g);have hO:=hO.grow (N44.g);refine Zr (GT.of_g (N44.g)) ?_;refine Zk 5 J J ?_;refine Yb (L':=[6,7]) [3,0,3,2,1,2,3,2] J J J J ?_;have hOo:=hO;refine Uu J Zd Zp J (Zc J) hO (Zc J) J E.g0.row (Vc k43 q43 Oj (fun j hj=>.inr (hOlt j hj))) (by simp;omega) (by have:=g.size;omega) ⟨by have:=g.size;omega,by have q2:=E.g2.lt;have q3:=E.g1.lt;simp;omega⟩ ?_;intro a45 c45 w45 hO hg45;replace E:=E.sel [false,true,true];replace E:=E.keepX hg45 hOo.ne Ob;have g:=Wk g hg45 (fun k hk=>hOo.ge k hk);have h:=h.keepO hg45 hOo;refine Yl ?_;refine Zt 6 J J (fun _=>Zg Zf (Zc J)) (Zk 7 J J ?_)
 refine Yb (L':=[]) [3,0,3,2,1,2,3,2] J J J J ?_;refine AS fun _ ga Ca g E=>?_;have h:=Uc h;have hO:=Ua hO;refine Yl ?_;refine TK [0,2,3] ?_;refine AU ?_;refine CL (Yve h) ?_;rintro _ _ ⟨rfl,h,ga⟩;refine RC fun g E=>?_;have hO:=hO.gt ga rfl;refine AU ?_;refine Xe [3,3,3,0,3,3,3,0,3,3] [true,true,true,true,true,true,true,true,true,true] [0,1,3,7,0,16,48,112,240,511] mix KR ?_;have g:=gtd g;replace E:=E.dr;have h:=h.grow (G.drew _);have hO:=hO.grow (G.drew _);refine IF (fun h3=>?_) fun h3=>?_;have e3:endQ l (fieldQ l sz T).2=failQ (semiQ l (fieldQ l sz T).2):=by unfold endQ;rw [h3];rfl
 refine AU ?_;refine CL (Wqa h) ?_;rintro _ _ ⟨rfl,h,ga⟩;refine RC fun g E=>?_;have hO:=hO.gt ga rfl;refine SK [0,2,3] ?_;refine Ze (fun a ha=>?_);rw [← e3] at h;exact ⟨(f',_,endQ l (fieldQ l sz T).2),ha,⟨⟨h,he,O,by simp;omega,_,E.g0,hO⟩,g⟩,(Ya (blkE E.g1) (Xg _)),by show f'<f'+1;omega⟩;have e3:endQ l (fieldQ l sz T).2=semiQ l (fieldQ l sz T).2:=by unfold endQ;rw [h3];rfl
 rw [← e3] at h;refine KC [0,2,3] ?_;refine Yp (fun a ha=>?_);exact ⟨(f',_,endQ l (fieldQ l sz T).2),ha,⟨⟨h,he,O,by simp;omega,_,E.g0,hO⟩,g⟩,(Ya (blkE E.g1) (Xg _)),by show f'<f'+1;omega⟩;replace h2:(!T.bad && !isQ l T [125])=false:=h2
 have he:(acc,T)=strL l sz (l.length+2) [] (takeQ l [123] (takeQ l [115,116,114,117,99,116] (nameQ l (adv S)).2)):=by
  rw [← he]
  cases f with
  | zero=>rfl
  | succ f'=>rw [strL,h2];rfl
 refine AU ?_;refine CL (Wg [125] Od h) ?_;rintro _ _ ⟨rfl,h,ga⟩;refine RC fun g E=>?_;have hO:=hO.gt ga rfl;refine AS fun _ ga Ca g E=>?_;have h:=Uc h;have hO:=Ua hO;refine RTN ?_;have e:declQ l sz x S=(mkN 2 (nameQ l (adv S)).1 0 (offQ l sz S) acc,takeQ l [125] T):=by unfold declQ strQ;rw [e1];dsimp only [Wpg];rw [← he]
 rw [e];exact ⟨Zy (t:=mkN 2 (nameQ l (adv S)).1 0 (offQ l sz S) acc) rfl hO.kd,h,g⟩;have e1:isQ l S [116,121,112,101]=false:=h1;refine IF (fun h4=>?_) fun h4=>?_;have e4:isQ l S [118,97,114]=true:=h4;have hadv:=(Vh e4 Od).2;have r4:=Us e4 Od;have q4:=(Xp e4 Od).trans (Qw (adv S));have n4:=q4.num hi;refine AS fun _ ga Ca g E=>?_;have h:=Uc h;refine AU ?_;refine Yc J Wz (Zc J) (Zc J) J h.B J J ?_;intro wS8 hgS8 _ BS;replace E:=E.keepT hgS8 h.B rfl;have g:=Uw g hgS8 h.B rfl h.hb;have h:=h.adv hgS8 BS (by first|assumption|omega);refine AU ?_;refine CL (Vra h) ?_;rintro _ _ ⟨rfl,h,ga⟩;refine RC fun g E=>?_;refine AS fun _ ga Ca g E=>?_;have h:=Uc h;refine AU ?_;refine CL (PkN.to (Xid) [b2,b3] h Xjd (E.ltm Ob) g.size) ?_;rintro _ _ ⟨⟨p77,c77,rfl,q77,k77⟩,h,ga⟩;refine RC fun g E=>?_;refine CN fun _ _ ga l79 g E=>?_;have k77:=Uj k77;have h:=Ui h;refine AS fun _ ga Ca g E=>?_;have h:=Uc h;have k77:=Ua k77;refine AS fun _ ga Ca g E=>?_;have h:=Uc h;have k77:=Ua k77;refine RTN ?_;have e:declQ l sz x S=(mkN 6 (nameQ l (adv S)).1 0 (offQ l sz S) [(typQ l sz (nameQ l (adv S)).2).1,nonN],(typQ l sz (nameQ l (adv S)).2).2):=by unfold declQ funQ;dsimp only;rw [e1,e4];rfl
 rw [e];exact ⟨Zy (t:=mkN 6 (nameQ l (adv S)).1 0 (offQ l sz S) [_,nonN]) rfl (Wi (ks:=[_,nonN]) ⟨l79,Xq E.g0⟩ E.g0.row (Xy (k77.kdN q77) (Ys (Vj _ _))) (Aaa _)),h,g⟩;have e4:isQ l S [118,97,114]=false:=h4;refine IF (fun h5=>?_) fun h5=>?_;have e5:isQ l S [102,117,110,99]=true:=h5;have hadv:=(Vh e5 Od).2;have r5:=Us e5 Od;have q5:=(Xp e5 Od).trans (Qw (adv S));have n5:=q5.num hi;have p4:=q5.tle (Uxc (sz:=sz) _).le;have n4:=p4.num hi;refine AS fun _ ga Ca g E=>?_;have h:=Uc h;refine AU ?_;refine Yc J Wz (Zc J) (Zc J) J h.B J J ?_;intro wS13 hgS13 _ BS;replace E:=E.keepT hgS13 h.B rfl;have g:=Uw g hgS13 h.B rfl h.hb;have h:=h.adv hgS13 BS (by first|assumption|omega);refine AU ?_;refine CL (Vra h) ?_;rintro _ _ ⟨rfl,h,ga⟩;refine RC fun g E=>?_;refine AS fun _ ga Ca g E=>?_;have h:=Uc h;refine AU ?_;refine CL (PkN.to (Vle) [b2,b3] h Xjd (E.ltm Ob) g.size) ?_;rintro _ _ ⟨⟨p95,c95,rfl,q95,k95⟩,h,ga⟩;refine RC fun g E=>?_;refine AN fun b4 _ ga _ g E=>?_;have k95:=Uj k95;have h:=Ui h;refine AS fun _ ga Ca g E=>?_;have h:=Uc h;have k95:=Ua k95;refine AN fun b5 _ ga _ g E=>?_;have k95:=Uj k95;have h:=Ui h;refine AS fun _ ga Ca g E=>?_;have h:=Uc h;have k95:=Ua k95;refine AU ?_;refine CL (Wya [123] h) ?_;rintro _ _ ⟨rfl,ga⟩;refine RC fun g E=>?_;have h:=Uk h;have k95:=Uk k95;refine IF (fun h6=>?_) fun h6=>?_;have e6:isQ l (paramsQ l sz (nameQ l (adv S)).2).2 [123]=false:=by simpa using h6
 have p5:=p4.tle (Xeb (sz:=sz) (paramsQ l sz (nameQ l (adv S)).2).2).le;have n6:=p5.num hi;refine AU ?_;refine CL (PkN.to (Xid) [b2,b3,b4,b5] h Xjd (E.ltm Ob) g.size) ?_;rintro _ _ ⟨⟨p101,c101,rfl,q101,k101⟩,h,ga⟩;refine RC fun g E=>?_;have k95:=k95.gtp ga;refine AS fun _ ga Ca g E=>?_;have h:=Uc h;have k95:=Ua k95;have k101:=Ua k101;refine AU ?_;refine Yr (gtP n0) [0,0,3,1,1,3,2] [0,0,0,4,15,31,63] mix KR [0,1,2,3,4,5,6] J ?_;have g:=gtd g;replace E:=E.dr;have h:=h.grow (G.drew _);have k95:=k95.grow (G.drew _);have k101:=k101.grow (G.drew _);refine Ye 0 J J (fun w1 hx=>Zq Zj (Zc J) J (fun _=>(E.g1.gt hx J).row)) (Ye 1 J J (fun w1 hx=>Zq Zj (Zc J) J (fun _=>(E.g0.gt hx J).row)) (Zt 2 J J (fun _=>Zm (Zc J)) (Zk 3 J J ?_)));refine Zh (L':=[4,5,6]) [0,0,3,2,1,3,2] J J J ?_;refine CL (PkN.to (K.blk) [b2,b3,b4,b5] h O (E.ltm Ob) g.size) ?_;rintro v105 w105 ⟨⟨p105,c105,rfl,q105,k105⟩,h,g105⟩;refine ⟨nw1,?_⟩;have g:=g.trans g105;replace E:=E.gt g105 rfl;have k95:=k95.gtp g105;have k101:=k101.gtp g105;refine Zr (g105) ?_;refine Zk 4 J J ?_;refine Zh (L':=[5,6]) [0,0,3,2,1,3,2] J J J ?_;refine CN fun _ _ N106 l106 g E=>?_;have k95:=k95.new N106;have k101:=k101.new N106;have k105:=k105.new N106;have h:=h.grow (N106.g);refine Zr (GT.of_g (N106.g)) ?_;refine Zt 5 J J (fun _=>Zg Zf (Zc J)) (Zk 6 J J ?_);refine Yb (L':=[]) [0,0,3,2,1,3,2] J J J J ?_;refine AS fun _ ga Ca g E=>?_;have h:=Uc h;have k95:=Ua k95;have k101:=Ua k101;have k105:=Ua k105;refine Yl ?_;refine TK [2,3] ?_;refine AS fun _ ga Ca g E=>?_;have h:=Uc h;have k95:=Ua k95;have k101:=Ua k101;have k105:=Ua k105;refine RTN ?_
 have e:declQ l sz x S=(mkN 4 (nameQ l (adv S)).1 0 (offQ l sz S) [(paramsQ l sz (nameQ l (adv S)).2).1,(typQ l sz (paramsQ l sz (nameQ l (adv S)).2).2).1,(x.blk (typQ l sz (paramsQ l sz (nameQ l (adv S)).2).2).2).1],(x.blk (typQ l sz (paramsQ l sz (nameQ l (adv S)).2).2).2).2):=by unfold declQ funQ;dsimp only;rw [e1,e4,e5,e6];rfl
 rw [e];exact ⟨Zy (t:=mkN 4 (nameQ l (adv S)).1 0 (offQ l sz S) [_,_,_]) rfl (Wi (ks:=[_,_,_]) ⟨l106,Xq E.g0⟩ E.g0.row (Xy (k95.kdN q95) (Xy (k101.kdN q101) (Ys (k105.kdN q105)))) (Aaa _)),h,g⟩;have e6:isQ l (paramsQ l sz (nameQ l (adv S)).2).2 [123]=true:=by simpa using h6
 refine AU ?_;refine Yr (gtP n0) [0,0,3,1,1,3,2] [0,0,0,4,15,31,63] mix KR [0,1,2,3,4,5,6] J ?_;have g:=gtd g;replace E:=E.dr;have h:=h.grow (G.drew _);have k95:=k95.grow (G.drew _);refine Ye 0 J J (fun w1 hx=>Zq Zj (Zc J) J (fun _=>(E.g1.gt hx J).row)) (Ye 1 J J (fun w1 hx=>Zq Zj (Zc J) J (fun _=>(E.g0.gt hx J).row)) (Zt 2 J J (fun _=>Zm (Zc J)) (Zk 3 J J ?_)));refine Zh (L':=[4,5,6]) [0,0,3,2,1,3,2] J J J ?_;refine CL (PkN.to (K.blk) [b2,b3,b4,b5] h O (E.ltm Ob) g.size) ?_;rintro v105 w105 ⟨⟨p105,c105,rfl,q105,k105⟩,h,g105⟩;refine ⟨nw1,?_⟩;have g:=g.trans g105;replace E:=E.gt g105 rfl;have k95:=k95.gtp g105;refine Zr (g105) ?_;refine Zk 4 J J ?_;refine Zh (L':=[5,6]) [0,0,3,2,1,3,2] J J J ?_;refine CN fun _ _ N106 l106 g E=>?_;have k95:=k95.new N106;have k105:=k105.new N106;have h:=h.grow (N106.g);refine Zr (GT.of_g (N106.g)) ?_;refine Zt 5 J J (fun _=>Zg Zf (Zc J)) (Zk 6 J J ?_);refine Yb (L':=[]) [0,0,3,2,1,3,2] J J J J ?_;refine AS fun _ ga Ca g E=>?_;have h:=Uc h;have k95:=Ua k95;have k105:=Ua k105;refine Yl ?_;refine TK [2,3] ?_;refine AS fun _ ga Ca g E=>?_;have h:=Uc h;have k95:=Ua k95;have k105:=Ua k105;refine RTN ?_;have e:declQ l sz x S=(mkN 4 (nameQ l (adv S)).1 0 (offQ l sz S) [(paramsQ l sz (nameQ l (adv S)).2).1,nonN,(x.blk (paramsQ l sz (nameQ l (adv S)).2).2).1],(x.blk (paramsQ l sz (nameQ l (adv S)).2).2).2):=by unfold declQ funQ;dsimp only;rw [e1,e4,e5,e6];rfl
 rw [e];exact ⟨Zy (t:=mkN 4 (nameQ l (adv S)).1 0 (offQ l sz S) [_,nonN,_]) rfl (Wi (ks:=[_,nonN,_]) ⟨l106,Xq E.g0⟩ E.g0.row (Xy (k95.kdN q95) (Xy (Vj _ _) (Ys (k105.kdN q105)))) (Aaa _)),h,g⟩;have e5:isQ l S [102,117,110,99]=false:=h5;refine AU ?_;refine CL (Wqa h) ?_;rintro _ _ ⟨rfl,h,ga⟩;refine RC fun g E=>?_;refine AS fun _ ga Ca g E=>?_;have h:=Uc h;refine RTN ?_;have e:declQ l sz x S=(mkN 0 [] 0 (offQ l sz S) [],failQ S):=by unfold declQ funQ;dsimp only;rw [e1,e4,e5];rfl
 rw [e];exact ⟨Zy (t:=mkN 0 [] 0 (offQ l sz S) []) rfl (Vj _ _),h,g⟩
end
def opLenR(l:List UInt8):Nat:=bif decide (2≤l.length)&&inB opsL (l.take 2) then 2 else bif decide (1≤l.length)&&inB opsL (l.take 1) then 1 else 0
theorem Ued(l:List UInt8)(hl:l.length≤20000)(w:Aa):Ret PP 125 #[Str l] w fun v w'=>v=Str (l.take (opLenR l))∧G w w':=by
 have g:=G.refl w;refine WK 46 [0] Tryz.func125 ?_;refine AU ?_;refine Xva (fun (n:Nat) u=>n≤2∧(∀ m,n<m→m≤2→(decide (m≤l.length)&&inB opsL (l.take m))=false)∧G w u) (fun n=>[(0,True,Str l),(3,True,.int .i64 n)]) (fun n=>n) 2 ⟨O,by intro m h1 h2;omega,g⟩ (Za J (Za J (Zo _))) ?_;rintro n u ⟨hn,hm,g⟩;refine IF (fun h1=>?_) fun h1=>?_;replace h1:1≤n:=by simp only [Wkg] at h1;omega
 refine IF (fun h2=>?_) fun h2=>?_
 have hk:(decide (n≤l.length)&&inB opsL (l.take n))=false:=by
  simp only [Wkg] at h2;rw [Whg (by omega:¬ n≤l.length)];rfl
 refine Jp J (kq (Zu (Zx J (Zs J (fun _=>Jab (r:=((n-1:Nat):Int)) (Zc J) Xh (fun hc=>(by rw [Wnc ⟨O,O⟩];omega))) (Xc J (Wp [(0,_,_),(3,_,_)] (Za J (Za J (Zo _))) (Ze (fun a ha=>?_))))))));refine ⟨n-1,ha,⟨O,?_,g⟩,O⟩;intro m h1 h2;by_cases e:m=n;rw [e];exact hk;exact hm m O h2;have hlen:n≤l.length:=by simp only [Wlg] at h2;omega
 refine AU ?_;refine' OR [0,3] (fun hb3=>?y3) (kq ?n3)
 case y3 =>
  refine AU ?_;refine' OR [0,3] (fun hb4=>?y4) knr
  case y4 =>
   refine AU ?_;refine' OR [0,3] (fun hb5=>?y5) knr
   case y5 =>
    refine AU ?_;refine' OR [0,3] (fun hb6=>?y6) knr
    case y6 =>
     refine AU ?_;refine' OR [0,3] (fun hb7=>?y7) knr
     case y7 =>
      refine AU ?_;refine' OR [0,3] (fun hb8=>?y8) knr
      case y8 =>
       refine AU ?_;refine' OR [0,3] (fun hb9=>?y9) knr
       case y9 =>
        refine AU ?_;refine' OR [0,3] (fun hb10=>?y10) knr
        case y10 =>
         refine AU ?_;refine' OR [0,3] (fun hb11=>?y11) knr
         case y11 =>
          refine AU ?_;refine' OR [0,3] (fun hb12=>?y12) knr
          case y12 =>
           refine AU ?_;refine' OR [0,3] (fun hb13=>?y13) knr
           case y13 =>
            refine AU ?_;refine' OR [0,3] (fun hb14=>?y14) knr
            case y14 =>
             refine AU ?_;refine' OR [0,3] (fun hb15=>?y15) knr
             case y15 =>
              refine AU ?_;refine' OR [0,3] (fun hb16=>?y16) knr
              case y16 =>
               refine AU ?_;refine' OR [0,3] (fun hb17=>?y17) knr
               case y17 =>
                refine AU ?_;refine' OR [0,3] (fun hb18=>?y18) knr
                case y18 =>
                 refine AU ?_;refine' OR [0,3] (fun hb19=>?y19) knr
                 case y19 =>
                  refine AU ?_;refine' OR [0,3] (fun hb20=>?y20) knr
                  case y20 =>
                   refine AU ?_;refine' OR [0,3] (fun hb21=>?y21) knr
                   case y21 =>
                    refine AU ?_;refine' OR [0,3] (fun hb22=>?y22) knr
                    case y22 =>
                     refine AU ?_;refine' OR [0,3] (fun hb23=>?y23) knr
                     case y23 =>
                      refine AU ?_;refine' OR [0,3] (fun hb24=>?y24) knr
                      case y24 =>
                       refine AU ?_;refine' OR [0,3] (fun hb25=>?y25) knr
                       case y25 =>
                        refine AU ?_;refine' OR [0,3] (fun hb26=>?y26) knr
                        case y26 =>
                         refine AU ?_;refine' OR [0,3] (fun hb27=>?y27) knr
                         case y27 =>
                          refine AU ?_;refine' OR [0,3] (fun hb28=>?y28) knr
                          case y28 =>
                           refine AU ?_;refine SK [15,0,3] ?_;exact Ze knr
 case n3 =>
  refine IF (fun h29=>?_) fun h29=>?_
  have hin:inB opsL (l.take n)=true:=by
   simp only [inB,opsL,Aga,Ama,Aia];exact h29
  have hk:(decide (n≤l.length)&&inB opsL (l.take n))=true:=by rw [Wig hlen,hin];rfl
  have hN:opLenR l=n:=by
   unfold opLenR;by_cases e:n=2;subst e;rw [hk];rfl;have e1:n=1:=by omega
   have e2:=hm 2 O O;subst e1;rw [hk,e2];rfl
  refine RTN ?_;refine ⟨?_,g⟩;rw [hN];rfl
  have hk:(decide (n≤l.length)&&inB opsL (l.take n))=false:=by
   have hin:inB opsL (l.take n)=false:=by simp only [inB,opsL,Aga,Ama,Aia];exact h29
   rw [hin,Bool.and_false]
  refine Yp (kq (Zu (Zx J (Zs J (fun _=>Jab (r:=((n-1:Nat):Int)) (Zc J) Xh (fun hc=>(by rw [Wnc ⟨O,O⟩];omega))) (Xc J (Wp [(0,_,_),(3,_,_)] (Za J (Za J (Zo _))) (Ze (fun a ha=>?_))))))));refine ⟨n-1,ha,⟨O,?_,g⟩,O⟩;intro m h1 h2;by_cases e:m=n;rw [e];exact hk;exact hm m O h2
 have hn0:n=0:=by simp only [Wlg] at h1;omega
 have e1:=hm 1 O O;have e2:=hm 2 O O;have hN:opLenR l=0:=by unfold opLenR;rw [e1,e2];rfl
 refine RTN ?_;refine ⟨?_,g⟩;rw [hN];rfl
theorem Quf(t:Tok)(w:Aa):Ret PP 89 #[.agg (tokCells t).toArray] w fun v w'=>v = .bool (endsT t)∧G w w':=by
 have g:=G.refl w;refine WK 25 [0] Tryz.func89 ?_;refine BM fun _ _ _ _ g E=>?_;refine AU ?_;refine' OR [1,2] (fun hb1=>?y1) (kq ?n1)
 case y1 =>
  refine AU ?_;refine SK [5,1,2] ?_;exact Ze knr
 case n1 =>
  refine IF (fun h2=>?_) fun h2=>?_;(try simp only [bsimp] at h2);refine RTN ?_;refine ⟨?_,g⟩;rw [endsT,h2];rfl;refine AU ?_;refine' OR [1,2,8,9,11] (fun hb3=>?y3) (kq ?n3)
  case y3 =>
   refine AU ?_;refine' OR [1,2,8,9,11] (fun hb4=>?y4) knr
   case y4 =>
    refine AU ?_;refine' OR [1,2,8,9,11] (fun hb5=>?y5) knr
    case y5 =>
     refine AU ?_;refine' OR [1,2,8,9,11] (fun hb6=>?y6) knr
     case y6 =>
      refine AU ?_;refine' OR [1,2,8,9,11] (fun hb7=>?y7) knr
      case y7 =>
       refine AU ?_;refine' OR [1,2,8,9,11] (fun hb8=>?y8) knr
       case y8 =>
        refine AU ?_;refine' OR [1,2,8,9,11] (fun hb9=>?y9) knr
        case y9 =>
         refine AU ?_;refine' OR [1,2,8,9,11] (fun hb10=>?y10) knr
         case y10 =>
          refine AU ?_;refine' OR [1,2,8,9,11] (fun hb11=>?y11) knr
          case y11 =>
           refine AU ?_;refine' OR [1,2,8,9,11] (fun hb12=>?y12) knr
           case y12 =>
            refine AU ?_;refine' OR [1,2,8,9,11] (fun hb13=>?y13) knr
            case y13 =>
             refine AU ?_;refine' OR [1,2,8,9,11] (fun hb14=>?y14) knr
             case y14 =>
              refine AU ?_;refine' OR [1,2,8,9,11] (fun hb15=>?y15) knr
              case y15 =>
               refine AU ?_;refine SK [10,1,2,8,9,11] ?_;exact Ze knr
  case n3 =>
   refine IF (fun h16=>?_) fun h16=>?_;(try simp only [bsimp] at h16);refine RTN ?_;refine ⟨?_,g⟩;rw [endsT,h2];simp only [inB,endw,Aga,Ama,Aia,Ada];rw [h16];refine RTN ?_;refine ⟨?_,g⟩;rw [endsT,h2];simp only [inB,endw,Aga,Ama,Aia,Ada];rw [h16]
theorem Qac{q:Int→Bool}{s:List UInt8}{p n:Nat}(h:(decide (((p+n:Nat):Int)<s.length)&&q (cAt s (p+n)))=true)(he:runN q (s.drop p)=n+runN q (s.drop (p+n))):p+(n+1)≤s.length∧runN q (s.drop p)=(n+1)+runN q (s.drop (p+(n+1))):=by
 simp only [Aea,Wkg] at h;have h1:p+n<s.length:=by omega
 have:=Ygc (q:=q) h1 h.2;exact ⟨O,by rw [he,this,Nat.add_assoc p n 1];omega⟩
theorem Qbc{q:Int→Bool}{s:List UInt8}{p n:Nat}(h:(decide (((p+n:Nat):Int)<s.length)&&q (cAt s (p+n)))=false)(he:runN q (s.drop p)=n+runN q (s.drop (p+n))):n=runN q (s.drop p):=by
 have:runN q (s.drop (p+n))=0:=Qqc fun hk=>by
  rw [Wig (by omega:((p+n:Nat):Int)<s.length),Ala] at h;exact h
 omega
def nextR(s:List UInt8)(p:Nat):Tok×Int :=
 bif letterB (cAt s p) then (⟨wordK ((s.drop p).take (runN isAlnum (s.drop p))),(s.drop p).take (runN isAlnum (s.drop p)),p⟩,bif decide ((32:Int)<runN isAlnum (s.drop p)) then 3 else 0)
 else bif digitB (cAt s p) then bif (!intOk ((s.drop p).take (runN digitB (s.drop p)))) || (decide ((p:Int)+runN digitB (s.drop p)<s.length)&&letterB (cAt s (p+runN digitB (s.drop p)))) then (⟨0,[],0⟩,4)
  else (⟨2,(s.drop p).take (runN digitB (s.drop p)),p⟩,0)
 else bif (decide (cAt s p=47)&&decide ((p:Int)+1<s.length))&&decide (cAt s (p+1)=47) then (⟨5,(s.drop p).take (runN isNotLf (s.drop p)),p⟩,0)
 else bif decide ((s.drop p).take (opLenR (s.drop p))=[]) then (⟨0,[],0⟩,4)
 else (⟨4,(s.drop p).take (opLenR (s.drop p)),p⟩,0)
theorem Xif(s:List UInt8)(p:Nat)(hp:p<s.length)(k4:s.length≤20000)(w:Aa):Ret PP 90 #[Str s,.int .i64 p] w fun v w'=>v = .tuple #[.agg (tokCells (nextR s p).1).toArray,.int .i64 (nextR s p).2]∧G w w':=by
 have g:=G.refl w;refine Ji (m:=144) Tryz.func90 J J [(0,True,_),(1,True,_)] (Za J (Za J (Zo _))) ?_;refine Vu fun K1 hK1=>?_;refine Ws [1,3] ?_;refine Xi J Xu J ?_;intro b4 w4 N4;have l4:=N4.ge g;have g:=g.trans N4.g;have B4:=N4.blk;refine Zs J (fun _=>Wd Xh) ?_;refine Ze (hK1 _ _ ?_);refine Vu fun K2 hK2=>?_;refine Ws [3,3] ?_;refine Zs J (fun _=>Zm (Zc J)) ?_;refine Zs J (fun _=>Wd (Zc J)) ?_;refine Wp [(0,_,_),(1,_,_),(4,_,_),(5,_,_),(6,_,_)] (Za J (Za J (Za J (Za J (Za J (Zo _)))))) ?_;refine Ze (hK2 _ _ ?_);refine Vu fun K3 hK3=>?_;refine Yz ?_;refine Vu fun K4 hK4=>?_;refine Ws [3,3,3,1,3] ?_;refine Zs J (fun _=>Zm (Zc J)) ?_;refine Zs J (fun _=>Zm (Zc J)) ?_;refine Zs J (fun _=>Qp Yq (Zc J) (Zc J) (fun _=>O)) ?_;refine Ub J (Yd Xpa Ve (Yi (Zc J) (Xj)) J) (Qrb _ _) (fun w16 g16=>?_);have g:=g.trans g16;replace B4:=B4.grow (g16);refine Zs J (fun _=>Wd (Zc J)) ?_;refine Wp [(0,_,_),(1,_,_),(4,_,_),(5,_,_),(6,_,_),(12,_,_)] (Za J (Za J (Za J (Za J (Za J (Za J (Zo _))))))) ?_;refine Ze (hK4 _ _ ?_);refine Xaa (Zc J) (fun h1=>?_) (fun h1=>?_);skip;replace h1:letterB (cAt s p)=true:=h1;refine Vu fun K5 hK5=>?_;refine Yz ?_;refine Xva (fun (n:Nat) u=>p+n≤s.length∧runN isAlnum (s.drop p)=n+runN isAlnum (s.drop (p+n))∧G w u∧Blk u b4 94 [.int .i64 0,.string ⟨#[]⟩,.int .i64 0]) (fun n=>[(0,True,Str s),(1,True,.int .i64 p),(4,True,.pointer (some ⟨b4,0,none⟩)),(6,True,.int .i64 (p+n:Nat))]) (fun n=>s.length-n) 0 ⟨O,by simp,g,B4⟩ (Za J (Za J (Za J (Za J (Zo _))))) ?_;rintro n u ⟨hn,he,g,B4⟩;refine Vu fun K6 hK6=>?_;refine Vu fun K7 hK7=>?_;refine Ws [3,3,3,3,3,3,3,3,1,3,3,3,3,1,3,3] ?_
 refine Zs J (fun _=>Zm (Zc J)) ?_;refine Zs J (fun _=>Zm (Zc J)) ?_;refine Zs J (fun _=>Zca Yq (Zc J)) ?_;refine Zs J (fun _=>Uib (Zc J) (Zc J)) ?_;refine Zs J (fun _=>Zm (Zc J)) ?_;refine Zv J J J (fun _=>Zm (Zc J)) ?_;refine Zv J J J (fun _=>Zm (Zc J)) ?_;refine Zv J J J (fun _=>Qp Yq (Zz J id) (Zz J id) (fun hc=>by have:=Wmg hc.2;omega)) ?_;refine Qa J J J (fun _=>(Yd Xpa Ve (Yi (Zz J id) (Xj)) J)) (fun hc=>Qrb _ _) (fun w25 g25=>?_);have g:=g.trans g25;replace B4:=B4.grow (g25);refine Zv J J J (fun _=>Zm (Zz J id)) ?_;refine Zv J J J (fun _=>Zm (Zc J)) ?_;refine Zv J J J (fun _=>Zm (Zc J)) ?_;refine Zv J J J (fun _=>Qp Yq (Zz J id) (Zz J id) (fun hc=>by have:=Wmg hc.1.2;omega)) ?_;refine Qa J J J (fun _=>(Yd Qha Ve (Yi (Zz J id) (Xj)) J)) (fun hc=>Ynb _ _) (fun w30 g30=>?_);have g:=g.trans g30;replace B4:=B4.grow (g30);refine Zv J J J (fun _=>Wb (Zz J id) (Zz J id)) ?_;refine Zs J (fun _=>Ww (Zc J) (Zz J id)) ?_;refine Wp [(0,_,_),(1,_,_),(4,_,_),(6,_,_),(32,_,_)] (Za J (Za J (Za J (Za J (Za J (Zo _)))))) ?_;refine Ze (hK7 _ _ ?_);refine Xaa (Zc J) (fun h2=>?_) (fun h2=>?_);skip;have hm:=Qac (q:=isAlnum) h2 he;refine Yp (hK6 _ _ ?_);refine Zja [(0,_,_),(1,_,_),(4,_,_),(6,_,_)] (Za J (Za J (Za J (Za J (Zo _))))) ?_;refine Yz ?_;refine Ws [3,3,3] ?_;refine Zs J (fun _=>Zm (Zc J)) ?_;refine Vta J J O ?_;refine Zs J (fun _=>Wd (Zc J)) ?_;refine Wp [(0,_,_),(1,_,_),(4,_,_),(6,_,_)] (Za J (Za J (Za J (Za J (Zo _))))) ?_;refine Ze (fun a ha=>?_);exact ⟨n+1,ha,⟨hm.1,hm.2,g,B4⟩,O⟩;skip;obtain rfl:=Qbc (q:=isAlnum) h2 he;have e:(((p+runN isAlnum (s.drop p):Nat):Int)).toNat-(p:Int).toNat=runN isAlnum (s.drop p):=by omega
 have hlen:((s.drop p).take (runN isAlnum (s.drop p))).length=runN isAlnum (s.drop p):=by rw [Aja,Aha];omega
 refine Jp J (hK5 _ _ ?_);refine Zja [(0,_,_),(1,_,_),(4,_,_),(6,_,_)] (Za J (Za J (Za J (Za J (Zo _))))) ?_;refine Vu fun K8 hK8=>?_;refine Ws [3,3,3,3,3,3,1,2] ?_;refine Zs J (fun _=>Zm (Zc J)) ?_;refine Zs J (fun _=>Zm (Zc J)) ?_;refine Zs J (fun _=>Zm (Zc J)) ?_;refine Zs J (fun _=>Ypb Yq (Zc J) (Zc J) (Zc J) (fun _=>O)) ?_;rw [e];refine Zs J (fun _=>Zm (Zc J)) ?_;refine Zsa Xu Qi (pqc J (pqc J (pqc J pq0))) J J ?_;refine Xi J Xu J ?_;intro b7 w7 N7;have x7_4:=N7.ne B4;have l7:=N7.ge g;have g:=g.trans N7.g;replace B4:=B4.grow (N7.g);have B7:=N7.blk;refine Xn J Uy (Zc J) (Zc J) J J B7 J J ?_;intro wS1 hgS1 hzS1;clear B7;intro B7;replace B4:=B4.keep hgS1 (by intro h;injection h with h;first|exact x7_4 h.symm|exact x4_7 h|omega);have g:=Yn g hgS1 O;refine Ze (hK8 _ _ ?_);refine Zja [(0,_,_),(1,_,_),(4,_,_),(6,_,_),(7,_,_),(35,_,_),(36,_,_),(37,_,_),(38,_,_),(39,_,_),(40,_,_)] (Za J (Za J (Za J (Za J (Za J (Za J (Za J (Za J (Za J (Za J (Za J (Zo _)))))))))))) ?_;refine Vu fun K9 hK9=>?_;refine Vu fun K10 hK10=>?_;refine Ws [3,0,1] ?_;refine Zs J (fun _=>Zg Qh (Zc J)) ?_;refine Ut J (Zw Xb (Zc J) (fun _=>B7.at_ J)) ?_;refine Ub J (Yd Vcc Ve (Yi (Zc J) (Xj)) J) (Xmc _ _) (fun w43 g43=>?_);have g:=g.trans g43;replace B4:=B4.grow (g43);replace B7:=B7.grow (g43);refine Ze (hK10 _ _ ?_);refine Xaa (Zc J) (fun h3=>?_) (fun h3=>?_);skip;replace h3:inB kws ((s.drop p).take (runN isAlnum (s.drop p)))=true:=h3;refine Ws [3,2] ?_;refine Zs J (fun _=>Zg Joa (Zc J)) ?_;refine Yc J Wz (Zc J) Xh J B7 J J ?_;intro wS2 hgS2 hzS2;clear B7;intro B7;replace B4:=B4.keep hgS2 (by intro h;injection h with h;first|exact x7_4 h.symm|exact x4_7 h|omega)
 have g:=Yn g hgS2 O;refine Ze (hK9 _ _ ?_);refine Vu fun K11 hK11=>?_;refine Vu fun K12 hK12=>?_;refine Ws [3,0,3,3] ?_;refine Zs J (fun _=>Zg Qh (Zc J)) ?_;refine Ut J (Zw Xb (Zc J) (fun _=>B7.at_ J)) ?_;refine Zs J (fun _=>Zca Yq (Zc J)) ?_;refine Zs J (fun _=>Woc (Zc J) Xh) ?_;refine Ze (hK12 _ _ ?_);refine Xaa (Zc J) (fun h4=>?_) (fun h4=>?_);skip;replace h4:decide ((32:Int)<(((s.drop p).take (runN isAlnum (s.drop p))).length:Nat))=true:=h4;rw [hlen] at h4;have hN:nextR s p=(⟨3,(s.drop p).take (runN isAlnum (s.drop p)),p⟩,3):=by unfold nextR;rw [h1,wordK,h3,h4];rfl
 refine Vu fun K13 hK13=>?_;refine Ws [0,2,3] ?_;refine Ut J (Zq Wo (Zc J) J (fun _=>B7.row)) ?_;refine Xn J Uy (Zc J) (Zc J) J J B4 J J ?_;intro wS3 hgS3 hzS3;clear B4;intro B4;replace B7:=B7.keep hgS3 (by intro h;injection h with h;first|exact x4_7 h.symm|exact x7_4 h|omega);have g:=Yn g hgS3 O;refine Zs J (fun _=>Wd Xh) ?_;refine Ze (hK13 _ _ ?_);refine Zja [(0,_,_),(1,_,_),(4,_,_),(5,_,_),(6,_,_),(7,_,_),(35,_,_),(36,_,_),(37,_,_),(38,_,_),(39,_,_),(40,_,_),(41,_,_),(42,_,_),(43,_,_),(44,_,_),(45,_,_),(46,_,_),(47,_,_),(48,_,_),(49,_,_)] (Za J (Za J (Za J (Za J (Za J (Za J (Za J (Za J (Za J (Za J (Za J (Za J (Za J (Za J (Za J (Za J (Za J (Za J (Za J (Za J (Za J (Zo _)))))))))))))))))))))) ?_;refine Xw (Zka (rs:=[.cell 4 94,.tmp 5]) (vs:=[_,_]) J J (Zba J Wo J (by first|exact B4.row|exact B7.row) (Wua J (Ug))) J ?_);rw [hN];exact ⟨rfl,g⟩;skip;replace h4:decide ((32:Int)<(((s.drop p).take (runN isAlnum (s.drop p))).length:Nat))=false:=h4;rw [hlen] at h4;have hN:nextR s p=(⟨3,(s.drop p).take (runN isAlnum (s.drop p)),p⟩,0):=by unfold nextR;rw [h1,wordK,h3,h4];rfl
 refine Yp (hK11 _ _ ?_);refine Vu fun K14 hK14=>?_;refine Ws [0,2,3] ?_;refine Ut J (Zq Wo (Zc J) J (fun _=>B7.row)) ?_;refine Xn J Uy (Zc J) (Zc J) J J B4 J J ?_;intro wS4 hgS4 hzS4;clear B4;intro B4;replace B7:=B7.keep hgS4 (by intro h;injection h with h;first|exact x4_7 h.symm|exact x7_4 h|omega);have g:=Yn g hgS4 O;refine Zs J (fun _=>Wd Xh) ?_;refine Ze (hK14 _ _ ?_);refine Zja [(0,_,_),(1,_,_),(4,_,_),(5,_,_),(6,_,_),(7,_,_),(35,_,_),(36,_,_),(37,_,_),(38,_,_),(39,_,_),(40,_,_),(41,_,_),(42,_,_),(43,_,_),(44,_,_),(45,_,_),(46,_,_),(47,_,_),(48,_,_),(50,_,_)] (Za J (Za J (Za J (Za J (Za J (Za J (Za J (Za J (Za J (Za J (Za J (Za J (Za J (Za J (Za J (Za J (Za J (Za J (Za J (Za J (Za J (Zo _)))))))))))))))))))))) ?_;refine Xw (Zka (rs:=[.cell 4 94,.tmp 5]) (vs:=[_,_]) J J (Zba J Wo J (by first|exact B4.row|exact B7.row) (Wua J (Ug))) J ?_);rw [hN];exact ⟨rfl,g⟩;skip;replace h3:inB kws ((s.drop p).take (runN isAlnum (s.drop p)))=false:=h3;refine Yp (hK9 _ _ ?_);refine Vu fun K15 hK15=>?_;refine Vu fun K16 hK16=>?_;refine Ws [3,0,3,3] ?_;refine Zs J (fun _=>Zg Qh (Zc J)) ?_;refine Ut J (Zw Xb (Zc J) (fun _=>B7.at_ J)) ?_;refine Zs J (fun _=>Zca Yq (Zc J)) ?_;refine Zs J (fun _=>Woc (Zc J) Xh) ?_;refine Ze (hK16 _ _ ?_);refine Xaa (Zc J) (fun h5=>?_) (fun h5=>?_);skip;replace h5:decide ((32:Int)<(((s.drop p).take (runN isAlnum (s.drop p))).length:Nat))=true:=h5;rw [hlen] at h5;have hN:nextR s p=(⟨1,(s.drop p).take (runN isAlnum (s.drop p)),p⟩,3):=by unfold nextR;rw [h1,wordK,h3,h5];rfl
 refine Vu fun K17 hK17=>?_;refine Ws [0,2,3] ?_;refine Ut J (Zq Wo (Zc J) J (fun _=>B7.row)) ?_;refine Xn J Uy (Zc J) (Zc J) J J B4 J J ?_;intro wS5 hgS5 hzS5;clear B4;intro B4;replace B7:=B7.keep hgS5 (by intro h;injection h with h;first|exact x4_7 h.symm|exact x7_4 h|omega);have g:=Yn g hgS5 O;refine Zs J (fun _=>Wd Xh) ?_;refine Ze (hK17 _ _ ?_);refine Zja [(0,_,_),(1,_,_),(4,_,_),(5,_,_),(6,_,_),(7,_,_),(35,_,_),(36,_,_),(37,_,_),(38,_,_),(39,_,_),(40,_,_),(41,_,_),(42,_,_),(43,_,_),(45,_,_),(46,_,_),(47,_,_),(48,_,_),(49,_,_)] (Za J (Za J (Za J (Za J (Za J (Za J (Za J (Za J (Za J (Za J (Za J (Za J (Za J (Za J (Za J (Za J (Za J (Za J (Za J (Za J (Zo _))))))))))))))))))))) ?_;refine Xw (Zka (rs:=[.cell 4 94,.tmp 5]) (vs:=[_,_]) J J (Zba J Wo J (by first|exact B4.row|exact B7.row) (Wua J (Ug))) J ?_);rw [hN];exact ⟨rfl,g⟩;skip;replace h5:decide ((32:Int)<(((s.drop p).take (runN isAlnum (s.drop p))).length:Nat))=false:=h5;rw [hlen] at h5;have hN:nextR s p=(⟨1,(s.drop p).take (runN isAlnum (s.drop p)),p⟩,0):=by unfold nextR;rw [h1,wordK,h3,h5];rfl
 refine Yp (hK15 _ _ ?_);refine Vu fun K18 hK18=>?_;refine Ws [0,2,3] ?_;refine Ut J (Zq Wo (Zc J) J (fun _=>B7.row)) ?_;refine Xn J Uy (Zc J) (Zc J) J J B4 J J ?_;intro wS6 hgS6 hzS6;clear B4;intro B4;replace B7:=B7.keep hgS6 (by intro h;injection h with h;first|exact x4_7 h.symm|exact x7_4 h|omega);have g:=Yn g hgS6 O;refine Zs J (fun _=>Wd Xh) ?_;refine Ze (hK18 _ _ ?_);refine Zja [(0,_,_),(1,_,_),(4,_,_),(5,_,_),(6,_,_),(7,_,_),(35,_,_),(36,_,_),(37,_,_),(38,_,_),(39,_,_),(40,_,_),(41,_,_),(42,_,_),(43,_,_),(45,_,_),(46,_,_),(47,_,_),(48,_,_),(50,_,_)] (Za J (Za J (Za J (Za J (Za J (Za J (Za J (Za J (Za J (Za J (Za J (Za J (Za J (Za J (Za J (Za J (Za J (Za J (Za J (Za J (Zo _))))))))))))))))))))) ?_;refine Xw (Zka (rs:=[.cell 4 94,.tmp 5]) (vs:=[_,_]) J J (Zba J Wo J (by first|exact B4.row|exact B7.row) (Wua J (Ug))) J ?_);rw [hN];exact ⟨rfl,g⟩;skip;replace h1:letterB (cAt s p)=false:=h1;refine Vu fun K19 hK19=>?_;refine Ws [3,3,3,1,3] ?_;refine Zs J (fun _=>Zm (Zc J)) ?_;refine Zs J (fun _=>Zm (Zc J)) ?_;refine Zs J (fun _=>Qp Yq (Zc J) (Zc J) (fun _=>O)) ?_;refine Ub J (Yd Qha Ve (Yi (Zc J) (Xj)) J) (Ynb _ _) (fun w55 g55=>?_);have g:=g.trans g55;replace B4:=B4.grow (g55);refine Zs J (fun _=>Wd (Zc J)) ?_;refine Wp [(0,_,_),(1,_,_),(4,_,_),(5,_,_),(6,_,_),(51,_,_)] (Za J (Za J (Za J (Za J (Za J (Za J (Zo _))))))) ?_;refine Ze (hK19 _ _ ?_);refine Xaa (Zc J) (fun h6=>?_) (fun h6=>?_);skip;replace h6:digitB (cAt s p)=true:=h6;have hpos:=Woa (q:=digitB) hp h6;refine Vu fun K20 hK20=>?_;refine Yz ?_
 refine Xva (fun (n:Nat) u=>p+n≤s.length∧runN digitB (s.drop p)=n+runN digitB (s.drop (p+n))∧G w u∧Blk u b4 94 [.int .i64 0,.string ⟨#[]⟩,.int .i64 0]) (fun n=>[(0,True,Str s),(1,True,.int .i64 p),(4,True,.pointer (some ⟨b4,0,none⟩)),(6,True,.int .i64 (p+n:Nat))]) (fun n=>s.length-n) 0 ⟨O,by simp,g,B4⟩ (Za J (Za J (Za J (Za J (Zo _))))) ?_;rintro n u ⟨hn,he,g,B4⟩;refine Vu fun K21 hK21=>?_;refine Vu fun K22 hK22=>?_;refine Ws [3,3,3,3,3,3,3,3,1,3] ?_;refine Zs J (fun _=>Zm (Zc J)) ?_;refine Zs J (fun _=>Zm (Zc J)) ?_;refine Zs J (fun _=>Zca Yq (Zc J)) ?_;refine Zs J (fun _=>Uib (Zc J) (Zc J)) ?_;refine Zs J (fun _=>Zm (Zc J)) ?_;refine Zv J J J (fun _=>Zm (Zc J)) ?_;refine Zv J J J (fun _=>Zm (Zc J)) ?_;refine Zv J J J (fun _=>Qp Yq (Zz J id) (Zz J id) (fun hc=>by have:=Wmg hc.2;omega)) ?_;refine Qa J J J (fun _=>(Yd Qha Ve (Yi (Zz J id) (Xj)) J)) (fun hc=>Ynb _ _) (fun w64 g64=>?_);have g:=g.trans g64;replace B4:=B4.grow (g64);refine Zs J (fun _=>Ww (Zc J) (Zz J id)) ?_;refine Wp [(0,_,_),(1,_,_),(4,_,_),(6,_,_),(65,_,_)] (Za J (Za J (Za J (Za J (Za J (Zo _)))))) ?_;refine Ze (hK22 _ _ ?_);refine Xaa (Zc J) (fun h7=>?_) (fun h7=>?_);skip;have hm:=Qac (q:=digitB) h7 he;refine Yp (hK21 _ _ ?_);refine Zja [(0,_,_),(1,_,_),(4,_,_),(6,_,_)] (Za J (Za J (Za J (Za J (Zo _))))) ?_;refine Yz ?_;refine Ws [3,3,3] ?_;refine Zs J (fun _=>Zm (Zc J)) ?_;refine Vta J J O ?_;refine Zs J (fun _=>Wd (Zc J)) ?_;refine Wp [(0,_,_),(1,_,_),(4,_,_),(6,_,_)] (Za J (Za J (Za J (Za J (Zo _))))) ?_;refine Ze (fun a ha=>?_);exact ⟨n+1,ha,⟨hm.1,hm.2,g,B4⟩,O⟩;skip;obtain rfl:=Qbc (q:=digitB) h7 he
 have e:(((p+runN digitB (s.drop p):Nat):Int)).toNat-(p:Int).toNat=runN digitB (s.drop p):=by omega
 have hlen:((s.drop p).take (runN digitB (s.drop p))).length=runN digitB (s.drop p):=by rw [Aja,Aha];omega
 refine Jp J (hK20 _ _ ?_);refine Zja [(0,_,_),(1,_,_),(4,_,_),(6,_,_)] (Za J (Za J (Za J (Za J (Zo _))))) ?_;refine Vu fun K23 hK23=>?_;refine Ws [3,3,3,3,1,3,3,3,3,3] ?_;refine Zs J (fun _=>Zm (Zc J)) ?_;refine Zs J (fun _=>Zm (Zc J)) ?_;refine Zs J (fun _=>Zm (Zc J)) ?_;refine Zs J (fun _=>Ypb Yq (Zc J) (Zc J) (Zc J) (fun _=>O)) ?_;rw [e];refine Wm J (Yd Xzb Ve (Yi (Zc J) (Xj)) J) (Jrd _ (Wkb s p) (by intro h0;have h0:=congrArg Ana h0;replace h0:((s.drop p).take (runN digitB (s.drop p))).length=0:=h0;rw [hlen] at h0;omega) (by show ((s.drop p).take (runN digitB (s.drop p))).length≤20000;rw [hlen];omega) _) ?_;rintro v73 w73 ⟨⟨x,rfl⟩,g73⟩;refine ⟨fun _=>g73,?_⟩;have g:=g.trans g73;replace B4:=B4.grow (g73);refine Zs J (fun _=>Zm (Zc J)) ?_;refine Zs J (fun _=>Jw (Zc J) J) ?_;refine Zs J (fun _=>Jw (Zc J) J) ?_;refine Zs J (fun _=>Wd (Zc J)) ?_;refine Zs J (fun _=>Wd (Zc J)) ?_;refine Wp [(0,_,_),(1,_,_),(4,_,_),(6,_,_),(9,_,_),(68,_,_),(69,_,_),(70,_,_),(71,_,_),(72,_,_),(73,_,_),(74,_,_),(75,_,_)] (Za J (Za J (Za J (Za J (Za J (Za J (Za J (Za J (Za J (Za J (Za J (Za J (Za J (Zo _)))))))))))))) ?_;refine Ze (hK23 _ _ ?_);refine Vu fun K24 hK24=>?_;refine Vu fun K25 hK25=>?_;refine Ws [3,3,3,3,3,3,3,3,3,3,3,1,3,3] ?_;refine Zs J (fun _=>Zm (Zc J)) ?_;refine Zs J (fun _=>Wpc (Zc J)) ?_;refine Zs J (fun _=>Zm (Zc J)) ?_;refine Zv J J J (fun _=>Zm (Zc J)) ?_;refine Zv J J J (fun _=>Zm (Zc J)) ?_;refine Zv J J J (fun _=>Zca Yq (Zz J id)) ?_;refine Zv J J J (fun _=>Uib (Zz J id) (Zz J id)) ?_;refine Zv J J J (fun _=>Zm (Zz J id)) ?_;refine Zv J J J (fun _=>Zm (Zc J)) ?_;refine Zv J J J (fun _=>Zm (Zc J)) ?_
 refine Zv J J J (fun _=>Qp Yq (Zz J id) (Zz J id) (fun hc=>by have:=Wmg hc.2;omega)) ?_;refine Qa J J J (fun _=>(Yd Xpa Ve (Yi (Zz J id) (Xj)) J)) (fun hc=>Qrb _ _) (fun w87 g87=>?_);have g:=g.trans g87;replace B4:=B4.grow (g87);refine Zv J J J (fun _=>Ww (Zz J id) (Zz J id)) ?_;refine Zs J (fun _=>Wb (Zc J) (Zz J id)) ?_;refine Ze (hK25 _ _ ?_);refine Xaa (Zc J) (fun h8=>?_) (fun h8=>?_);skip;replace h8:((!intOk ((s.drop p).take (runN digitB (s.drop p)))) || (decide ((p:Int)+runN digitB (s.drop p)<s.length)&&letterB (cAt s (p+runN digitB (s.drop p)))))=true:=h8;have hN:nextR s p=(⟨0,[],0⟩,4):=by unfold nextR;rw [h1,h6,h8];rfl
 refine Vu fun K26 hK26=>?_;refine Ws [3,2,3] ?_;refine Zsa Xu Qi pq0 J J ?_;refine Xn J Uy (Zc J) (Zc J) J J B4 J J ?_;intro wS7 hgS7 hzS7;clear B4;intro B4;have g:=Yn g hgS7 O;refine Zs J (fun _=>Wd Xh) ?_;refine Ze (hK26 _ _ ?_);refine Zja [(0,_,_),(1,_,_),(4,_,_),(5,_,_),(6,_,_),(9,_,_),(68,_,_),(69,_,_),(70,_,_),(71,_,_),(72,_,_),(73,_,_),(74,_,_),(75,_,_),(76,_,_),(77,_,_),(78,_,_),(79,_,_),(80,_,_),(81,_,_),(82,_,_),(83,_,_),(84,_,_),(85,_,_),(86,_,_),(87,_,_),(88,_,_),(89,_,_),(90,_,_)] (Za J (Za J (Za J (Za J (Za J (Za J (Za J (Za J (Za J (Za J (Za J (Za J (Za J (Za J (Za J (Za J (Za J (Za J (Za J (Za J (Za J (Za J (Za J (Za J (Za J (Za J (Za J (Za J (Za J (Zo _)))))))))))))))))))))))))))))) ?_;refine Xw (Zka (rs:=[.cell 4 94,.tmp 5]) (vs:=[_,_]) J J (Zba J Wo J (by first|exact B4.row) (Wua J (Ug))) J ?_);rw [hN];exact ⟨rfl,g⟩;skip;replace h8:((!intOk ((s.drop p).take (runN digitB (s.drop p)))) || (decide ((p:Int)+runN digitB (s.drop p)<s.length)&&letterB (cAt s (p+runN digitB (s.drop p)))))=false:=h8;have hN:nextR s p=(⟨2,(s.drop p).take (runN digitB (s.drop p)),p⟩,0):=by unfold nextR;rw [h1,h6,h8];rfl
 refine Yp (hK24 _ _ ?_);refine Vu fun K27 hK27=>?_;refine Ws [3,3,3,3,3,3,2,3] ?_;refine Zs J (fun _=>Zm (Zc J)) ?_;refine Zs J (fun _=>Zm (Zc J)) ?_;refine Zs J (fun _=>Zm (Zc J)) ?_;refine Zs J (fun _=>Ypb Yq (Zc J) (Zc J) (Zc J) (fun _=>O)) ?_;rw [e];refine Zs J (fun _=>Zm (Zc J)) ?_;refine Zsa Xu Qi (pqc J (pqc J (pqc J pq0))) J J ?_;refine Xn J Uy (Zc J) (Zc J) J J B4 J J ?_;intro wS8 hgS8 hzS8;clear B4;intro B4;have g:=Yn g hgS8 O;refine Zs J (fun _=>Wd Xh) ?_;refine Ze (hK27 _ _ ?_);refine Zja [(0,_,_),(1,_,_),(4,_,_),(5,_,_),(6,_,_),(9,_,_),(68,_,_),(69,_,_),(70,_,_),(71,_,_),(72,_,_),(73,_,_),(74,_,_),(75,_,_),(76,_,_),(77,_,_),(78,_,_),(79,_,_),(80,_,_),(81,_,_),(82,_,_),(83,_,_),(84,_,_),(85,_,_),(86,_,_),(87,_,_),(88,_,_),(89,_,_),(91,_,_),(92,_,_),(93,_,_),(94,_,_),(95,_,_),(96,_,_)] (Za J (Za J (Za J (Za J (Za J (Za J (Za J (Za J (Za J (Za J (Za J (Za J (Za J (Za J (Za J (Za J (Za J (Za J (Za J (Za J (Za J (Za J (Za J (Za J (Za J (Za J (Za J (Za J (Za J (Za J (Za J (Za J (Za J (Za J (Zo _))))))))))))))))))))))))))))))))))) ?_;refine Xw (Zka (rs:=[.cell 4 94,.tmp 5]) (vs:=[_,_]) J J (Zba J Wo J (by first|exact B4.row) (Wua J (Ug))) J ?_);rw [hN];exact ⟨rfl,g⟩;skip;replace h6:digitB (cAt s p)=false:=h6;refine Vu fun K28 hK28=>?_;refine Ws [3,3,3,3,3,3,3,3,3,3,3,3,3,3,3,3,3,3,3] ?_;refine Zs J (fun _=>Zm (Zc J)) ?_;refine Zs J (fun _=>Zm (Zc J)) ?_;refine Zs J (fun _=>Qp Yq (Zc J) (Zc J) (fun _=>O)) ?_;refine Zs J (fun _=>Jza (Zc J) Xh) ?_;refine Zs J (fun _=>Zm (Zc J)) ?_;refine Zv J J J (fun _=>Zm (Zc J)) ?_
 refine Zv J J J (fun _=>Jca (Zz J id) Xh (fun _=>O)) ?_;refine Zv J J J (fun _=>Zm (Zc J)) ?_;refine Zv J J J (fun _=>Zca Yq (Zz J id)) ?_;refine Zv J J J (fun _=>Uib (Zz J id) (Zz J id)) ?_;refine Zs J (fun _=>Ww (Zc J) (Zz J id)) ?_;refine Zs J (fun _=>Zm (Zc J)) ?_;refine Zv J J J (fun _=>Zm (Zc J)) ?_;refine Zv J J J (fun _=>Zm (Zc J)) ?_;refine Zv J J J (fun _=>Jca (Zz J id) Xh (fun _=>O)) ?_;refine Zv J J J (fun _=>Qp Yq (Zz J id) (Zz J id) (fun hc=>by have:=hc.2;simp only [Aea,Wkg] at this;omega)) ?_;refine Zv J J J (fun _=>Jza (Zz J id) Xh) ?_;refine Zs J (fun _=>Ww (Zc J) (Zz J id)) ?_;refine Zs J (fun _=>Wd (Zc J)) ?_;refine Wp [(0,_,_),(1,_,_),(4,_,_),(5,_,_),(6,_,_),(97,_,_)] (Za J (Za J (Za J (Za J (Za J (Za J (Zo _))))))) ?_;refine Ze (hK28 _ _ ?_);refine Xaa (Zc J) (fun h9=>?_) (fun h9=>?_);skip;replace h9:((decide (cAt s p=47)&&decide ((p:Int)+1<s.length))&&decide (cAt s (p+1)=47))=true:=h9;refine Vu fun K29 hK29=>?_;refine Yz ?_;refine Xva (fun (n:Nat) u=>p+n≤s.length∧runN isNotLf (s.drop p)=n+runN isNotLf (s.drop (p+n))∧G w u∧Blk u b4 94 [.int .i64 0,.string ⟨#[]⟩,.int .i64 0]) (fun n=>[(0,True,Str s),(1,True,.int .i64 p),(4,True,.pointer (some ⟨b4,0,none⟩)),(6,True,.int .i64 (p+n:Nat))]) (fun n=>s.length-n) 0 ⟨O,by simp,g,B4⟩ (Za J (Za J (Za J (Za J (Zo _))))) ?_;rintro n u ⟨hn,he,g,B4⟩;refine Vu fun K30 hK30=>?_;refine Vu fun K31 hK31=>?_;refine Ws [3,3,3,3,3,3,3,3,3,3] ?_;refine Zs J (fun _=>Zm (Zc J)) ?_;refine Zs J (fun _=>Zm (Zc J)) ?_;refine Zs J (fun _=>Zca Yq (Zc J)) ?_;refine Zs J (fun _=>Uib (Zc J) (Zc J)) ?_;refine Zs J (fun _=>Zm (Zc J)) ?_
 refine Zv J J J (fun _=>Zm (Zc J)) ?_;refine Zv J J J (fun _=>Zm (Zc J)) ?_;refine Zv J J J (fun _=>Qp Yq (Zz J id) (Zz J id) (fun hc=>by have:=Wmg hc.2;omega)) ?_;refine Zv J J J (fun _=>Vsa (Zz J id) Xh) ?_;refine Zs J (fun _=>Ww (Zc J) (Zz J id)) ?_;refine Wp [(0,_,_),(1,_,_),(4,_,_),(6,_,_),(125,_,_)] (Za J (Za J (Za J (Za J (Za J (Zo _)))))) ?_;refine Ze (hK31 _ _ ?_);refine Xaa (Zc J) (fun h10=>?_) (fun h10=>?_);skip;have hm:=Qac (q:=isNotLf) h10 he;refine Yp (hK30 _ _ ?_);refine Zja [(0,_,_),(1,_,_),(4,_,_),(6,_,_)] (Za J (Za J (Za J (Za J (Zo _))))) ?_;refine Yz ?_;refine Ws [3,3,3] ?_;refine Zs J (fun _=>Zm (Zc J)) ?_;refine Vta J J O ?_;refine Zs J (fun _=>Wd (Zc J)) ?_;refine Wp [(0,_,_),(1,_,_),(4,_,_),(6,_,_)] (Za J (Za J (Za J (Za J (Zo _))))) ?_;refine Ze (fun a ha=>?_);exact ⟨n+1,ha,⟨hm.1,hm.2,g,B4⟩,O⟩;skip;obtain rfl:=Qbc (q:=isNotLf) h10 he;have e:(((p+runN isNotLf (s.drop p):Nat):Int)).toNat-(p:Int).toNat=runN isNotLf (s.drop p):=by omega
 have hN:nextR s p=(⟨5,(s.drop p).take (runN isNotLf (s.drop p)),p⟩,0):=by unfold nextR;rw [h1,h6,h9];rfl
 refine Jp J (hK29 _ _ ?_);refine Zja [(0,_,_),(1,_,_),(4,_,_),(6,_,_)] (Za J (Za J (Za J (Za J (Zo _))))) ?_;refine Vu fun K32 hK32=>?_;refine Ws [3,3,3,3,3,3,2,3] ?_;refine Zs J (fun _=>Zm (Zc J)) ?_;refine Zs J (fun _=>Zm (Zc J)) ?_;refine Zs J (fun _=>Zm (Zc J)) ?_;refine Zs J (fun _=>Ypb Yq (Zc J) (Zc J) (Zc J) (fun _=>O)) ?_;rw [e];refine Zs J (fun _=>Zm (Zc J)) ?_;refine Zsa Xu Qi (pqc J (pqc J (pqc J pq0))) J J ?_;refine Xn J Uy (Zc J) (Zc J) J J B4 J J ?_;intro wS9 hgS9 hzS9;clear B4;intro B4;have g:=Yn g hgS9 O;refine Zs J (fun _=>Wd Xh) ?_;refine Ze (hK32 _ _ ?_);refine Zja [(0,_,_),(1,_,_),(4,_,_),(5,_,_),(6,_,_),(128,_,_),(129,_,_),(130,_,_),(131,_,_),(132,_,_),(133,_,_)] (Za J (Za J (Za J (Za J (Za J (Za J (Za J (Za J (Za J (Za J (Za J (Zo _)))))))))))) ?_;refine Xw (Zka (rs:=[.cell 4 94,.tmp 5]) (vs:=[_,_]) J J (Zba J Wo J (by first|exact B4.row) (Wua J (Ug))) J ?_);rw [hN];exact ⟨rfl,g⟩;skip;replace h9:((decide (cAt s p=47)&&decide ((p:Int)+1<s.length))&&decide (cAt s (p+1)=47))=false:=h9;refine Yp (hK3 _ _ ?_);refine Zja [(0,_,_),(1,_,_),(4,_,_),(5,_,_)] (Za J (Za J (Za J (Za J (Zo _))))) ?_;refine Vu fun K33 hK33=>?_;refine Ws [3,3,3,1,3] ?_;refine Zs J (fun _=>Zm (Zc J)) ?_;refine Zs J (fun _=>Zm (Zc J)) ?_;refine Zs J (fun _=>Xrb Yq (Zc J) (Zc J) (fun _=>O)) ?_;refine Ub J (Yd Xuc Ve (Yi (Zc J) (Xj)) J) (Ued _ (by show (s.drop p).length≤20000;rw [Aha];omega) _) (fun w137 g137=>?_);have g:=g.trans g137;replace B4:=B4.grow (g137);refine Zs J (fun _=>Wd (Zc J)) ?_;refine Ze (hK33 _ _ ?_)
 refine Zja [(0,_,_),(1,_,_),(4,_,_),(5,_,_),(10,_,_),(134,_,_),(135,_,_),(136,_,_),(137,_,_)] (Za J (Za J (Za J (Za J (Za J (Za J (Za J (Za J (Za J (Zo _)))))))))) ?_;refine Vu fun K34 hK34=>?_;refine Vu fun K35 hK35=>?_;refine Ws [3,3] ?_;refine Zs J (fun _=>Zm (Zc J)) ?_;refine Zs J (fun _=>Wqc (Zc J) Xh) ?_;refine Ze (hK35 _ _ ?_);refine Xaa (Zc J) (fun h11=>?_) (fun h11=>?_);skip;replace h11:decide ((s.drop p).take (opLenR (s.drop p))=[])=true:=h11;have hN:nextR s p=(⟨0,[],0⟩,4):=by unfold nextR;rw [h1,h6,h9,h11];rfl
 refine Vu fun K36 hK36=>?_;refine Ws [3,2,3] ?_;refine Zsa Xu Qi pq0 J J ?_;refine Xn J Uy (Zc J) (Zc J) J J B4 J J ?_;intro wS10 hgS10 hzS10;clear B4;intro B4;have g:=Yn g hgS10 O;refine Zs J (fun _=>Wd Xh) ?_;refine Ze (hK36 _ _ ?_);refine Xw (Zka (rs:=[.cell 4 94,.tmp 5]) (vs:=[_,_]) J J (Zba J Wo J (by first|exact B4.row) (Wua J (Ug))) J ?_);rw [hN];exact ⟨rfl,g⟩;skip;replace h11:decide ((s.drop p).take (opLenR (s.drop p))=[])=false:=h11;have hN:nextR s p=(⟨4,(s.drop p).take (opLenR (s.drop p)),p⟩,0):=by unfold nextR;rw [h1,h6,h9,h11];rfl
 refine Yp (hK34 _ _ ?_);refine Vu fun K37 hK37=>?_;refine Ws [3,3,3,2,3] ?_;refine Zs J (fun _=>Zm (Zc J)) ?_;refine Zs J (fun _=>Zm (Zc J)) ?_;refine Zsa Xu Qi (pqc J (pqc J (pqc J pq0))) J J ?_;refine Xn J Uy (Zc J) (Zc J) J J B4 J J ?_;intro wS11 hgS11 hzS11;clear B4;intro B4;have g:=Yn g hgS11 O;refine Zs J (fun _=>Wd Xh) ?_;refine Ze (hK37 _ _ ?_);refine Xw (Zka (rs:=[.cell 4 94,.tmp 5]) (vs:=[_,_]) J J (Zba J Wo J (by first|exact B4.row) (Wua J (Ug))) J ?_);rw [hN];exact ⟨rfl,g⟩
end Go.Rk
namespace Go.Rk
open Go.Proofs
open Go
theorem Jtd{s:List UInt8}{p:Nat}(h:p<s.length):cAt s p=(s[p].toNat:Int):=by
 simp [cAt,Ata,Aua h]
theorem Xjf{s:List UInt8}{p:Nat}(h:p<s.length)(u:UInt8):decide (cAt s p=(u.toNat:Int))=decide (s[p]=u):=by
 rw [Jtd h,Bool.eq_iff_iff];simp only [Wkg];constructor;intro e;exact UInt8.toNat_inj.mp O;rintro e;rw [e]
theorem Ufd{s:List UInt8}{p:Nat}(h:p<s.length):preB [47,47] (s.drop p)=((decide (cAt s p=47)&&decide ((p:Int)+1<s.length))&&decide (cAt s (p+1)=47)):=by
 have e1:=Xjf h 47;rw [show ((47:UInt8).toNat:Int)=47 from rfl] at e1;rw [preB,Aha];by_cases h1:p+1<s.length;have e2:=Xjf h1 47;rw [show ((47:UInt8).toNat:Int)=47 from rfl] at e2;rw [e1,e2,Wig (by omega:(p:Int)+1<s.length),Wig (show [(47:UInt8),47].length≤s.length-p by simp;omega)];rw [Ava h,Ava h1];rw [show [(47:UInt8),47].length=2 from rfl,Bool.eq_iff_iff];simp only [List.take_succ_cons,List.take_zero,Wkg,Aea,Ala,Bool.and_true,List.cons.injEq,and_true];rw [Whg (by omega:¬ (p:Int)+1<s.length),Whg (show ¬ [(47:UInt8),47].length≤s.length-p by simp;omega)];simp
/-! operators -/
def ops2:List (List UInt8):=opsL.take 8
def ops1:List (List UInt8):=opsL.drop 8
theorem Zoc:∀ o∈ops2,o.length=2:=by decide
theorem Qcc:∀ o∈ops1,o.length=1:=by decide
theorem Juc:opsL=ops2++ops1:=(List.take_append_drop 8 opsL).symm
theorem Ywe{os:List (List UInt8)}{n:Nat}(h:∀ o∈os,o.length=n)(l:List UInt8):os.any (fun o=>preB o l)=(decide (n≤l.length)&&inB os (l.take n)):=by
 induction os with
 | nil=>simp [inB]
 | cons o os ih =>
  have ho:=h o (Ara ..);rw [Aga,ih (fun x hx=>h x (Aoa _ hx))];simp only [inB,Aga,preB,ho];cases decide (n≤l.length) <;> simp
theorem Xkd{os:List (List UInt8)}{n:Nat}(h:∀ o∈os,o.length=n){l:List UInt8}(hl:l.length≠n):inB os l=false:=by
 rw [inB,List.any_eq_false];intro o ho;have:=h o ho;simp only [Wkg];intro e;exact hl (e▸this)
theorem Yxe(a b:List (List UInt8))(l:List UInt8):inB (a++b) l=(inB a l || inB b l):=by simp [inB]
theorem Ugd{os:List (List UInt8)}{n:Nat}(h:∀ o∈os,o.length=n)(l:List UInt8):(os.find? (fun o=>preB o l)).map Ana=bif os.any (fun o=>preB o l) then some n else none:=by
 induction os with
 | nil=>rfl
 | cons o os ih =>
  rw [List.find?_cons,Aga];cases hp:preB o l;simpa using ih (fun x hx=>h x (Aoa _ hx));simp [h o (Ara ..)]
theorem Vne(l:List UInt8):Ydb l=((opsL.find? (fun o=>preB o l)).map Ana).getD 0:=by
 rw [Ydb];cases opsL.find? (fun o=>preB o l) <;> rfl
theorem Yye(l:List UInt8):Ydb l=opLenR l:=by
 have h2:=Ugd Zoc l;have h1:=Ugd Qcc l;have a2:=Ywe Zoc l;have a1:=Ywe Qcc l;rw [Vne,Juc,List.find?_append];unfold opLenR;rw [Juc,Yxe,Yxe];by_cases hl2:2≤l.length;rw [Xkd Qcc (l:=l.take 2) (by rw [Aja];omega),Xkd Zoc (l:=l.take 1) (by rw [Aja];omega),Aia,Ada,← a2,← a1]
 cases hx:ops2.find? (fun o=>preB o l) with
 | some o=>rw [hx] at h2;cases hy:ops2.any (fun o=>preB o l) <;> rw [hy] at h2 <;> simp at h2 ⊢;exact h2
 | none =>
  rw [hx] at h2;cases hy:ops2.any (fun o=>preB o l)
  cases hz:ops1.find? (fun o=>preB o l) with
  | some o=>rw [hz] at h1;cases hw:ops1.any (fun o=>preB o l) <;> rw [hw] at h1 <;> simp at h1 ⊢;exact h1
  | none=>rw [hz] at h1;cases hw:ops1.any (fun o=>preB o l) <;> rw [hw] at h1 <;> simp at h1 ⊢
  rw [hy] at h2;simp at h2
 have e2:ops2.any (fun o=>preB o l)=false:=by rw [a2,Whg hl2];rfl
 rw [Whg hl2,Bool.false_and,Wog]
 cases hx:ops2.find? (fun o=>preB o l) with
 | some o=>rw [hx,e2] at h2;simp at h2
 | none =>
  by_cases hl1:1≤l.length;rw [Xkd Zoc (l:=l.take 1) (by rw [Aja];omega),Ada,← a1]
  cases hz:ops1.find? (fun o=>preB o l) with
  | some o=>rw [hz] at h1;cases hw:ops1.any (fun o=>preB o l) <;> rw [hw] at h1 <;> simp at h1 ⊢;exact h1
  | none=>rw [hz] at h1;cases hw:ops1.any (fun o=>preB o l) <;> rw [hw] at h1 <;> simp at h1 ⊢
  rw [Whg hl1,Bool.false_and] at a1 ⊢;rw [a1] at h1
  cases hz:ops1.find? (fun o=>preB o l) with
  | some o=>rw [hz] at h1;simp at h1
  | none=>rfl
theorem Jvc(l:List UInt8):opLenR l≤l.length:=by
 unfold opLenR;cases h2:decide (2≤l.length)&&inB opsL (l.take 2);cases h1:decide (1≤l.length)&&inB opsL (l.take 1);exact Apa _;simp only [Aea,Wkg] at h1;exact h1.1;simp only [Aea,Wkg] at h2;exact h2.1
/-! integers -/
theorem Xkf(l:List UInt8)(h:allD l):∀ a,a*10 ^ l.length≤valN a l:=by
 induction l with
 | nil=>intro a;show a*1≤a;omega
 | cons c l ih =>
  intro a;have:=ih (fun x hx=>h x (Aoa _ hx)) (a*10+(c.toNat-48));rw [Ycb,List.length_cons,Nat.pow_succ];refine Aba ?_ this;rw [show a*(10 ^ l.length*10)=(a*10)*10 ^ l.length by rw [Nat.mul_assoc,Nat.mul_comm 10]];exact Nat.mul_le_mul_right _ O
theorem Qvf{l:List UInt8}(h:allD l)(h0:cAt l 0≠48)(hv:valN 0 l<9223372036854775808):l.length≤19:=by
 cases l with
 | nil=>simp
 | cons c l =>
  have hc:=h c (Ara ..);have hne:c.toNat≠48:=by intro e;exact h0 (by simp [cAt,e])
  have h1:=Xkf l (fun x hx=>h x (Aoa _ hx)) (0*10+(c.toNat-48));rw [Ycb] at hv;have h2:10 ^ l.length≤(0*10+(c.toNat-48))*10 ^ l.length:=Nat.le_mul_of_pos_left _ O;by_cases hl:l.length≤18;simp;omega;exfalso;have h3:(10:Nat) ^ 19≤10 ^ l.length:=Asa Od O;have h4:(10:Nat) ^ 19=10000000000000000000:=by decide
  omega
theorem Voe{s:List UInt8}{p:Nat}(ts cs:List Tok)(h:p<s.length)(hb:(decide (cAt s p=10) || ((decide (cAt s p=32) || decide (cAt s p=9)) || decide (cAt s p=13)))=false) :
 nextF s p ts cs=bif !decide ((nextR s p).2=0) then (p,ts,cs,(nextR s p).2) else bif decide ((nextR s p).1.kind=5) then (p+(nextR s p).1.text.length,ts,cs++[(nextR s p).1],0) else (p+(nextR s p).1.text.length,ts++[(nextR s p).1],cs,0):=by
 rw [Bool.or_eq_false_iff] at hb;have hlen:∀ n,p+n≤s.length→((s.drop p).take n).length=n:=fun n hn=>by rw [Aja,Aha];omega
 unfold nextF nextR;rw [hb.1,hb.2,Ufd h];cases h3:(decide (cAt s p=47)&&decide ((p:Int)+1<s.length))&&decide (cAt s (p+1)=47);cases h4:letterB (cAt s p);cases h6:digitB (cAt s p);simp only [Wog];have hle:=Jvc (s.drop p);rw [Aha] at hle;rw [Yye];cases h0:Nat.beq (opLenR (s.drop p)) 0;have hne:opLenR (s.drop p)≠0:=by intro e;rw [e] at h0;cases h0
 rw [Whg (show ¬ (s.drop p).take (opLenR (s.drop p))=[] by intro e;have:=congrArg Ana e;rw [hlen _ (by omega)] at this;exact hne this)];simp [hlen _ (show p+opLenR (s.drop p)≤s.length by omega)];have e0:=Nat.eq_of_beq_eq_true h0;rw [e0];simp;simp only [Wpg,Wog];have hf:=Xra digitB h;have hpos:=Woa (q:=digitB) h h6;have hd:=Wkb s p;have hl:=hlen _ hf
 have hc0:cAt ((s.drop p).take (runN digitB (s.drop p))) 0=cAt s p:=by
  rw [Jtd (by omega),Jtd h];simp
 rw [badD];cases hlt:decide ((p:Int)+runN digitB (s.drop p)<s.length)&&letterB (cAt s (p+runN digitB (s.drop p)));simp only [Aia];rw [intOk,hl,hc0];by_cases hv:valN 0 ((s.drop p).take (runN digitB (s.drop p)))<9223372036854775808;rw [Wig hv,Wig (show ((valN 0 ((s.drop p).take (runN digitB (s.drop p))):Nat):Int)<9223372036854775808 by omega)];by_cases h48:cAt s p=48;rw [Wig h48];by_cases h1:(1:Int)<runN digitB (s.drop p);rw [Wig h1];simp;rw [Whg h1,Wig (show runN digitB (s.drop p)≤19 by omega)];simp [hl];rw [Whg h48,Wig (show runN digitB (s.drop p)≤19 by rw [← hl];exact Qvf hd (by rw [hc0];exact h48) hv)];simp [hl];rw [Whg hv,Whg (show ¬ ((valN 0 ((s.drop p).take (runN digitB (s.drop p))):Nat):Int)<9223372036854775808 by omega)];cases (decide (cAt s p=48)&&decide ((1:Int)<runN digitB (s.drop p))) <;> simp
 simp;simp only [Wpg,Wog];have hf:=Xra isAlnum h;cases h5:decide ((32:Int)<runN isAlnum (s.drop p));rw [wordK];cases inB kws ((s.drop p).take (runN isAlnum (s.drop p))) <;> simp [hlen _ hf]
 simp;have hc:cAt s p=47:=by simp only [Aea,Wkg] at h3;exact h3.1.1
 have h4:letterB (cAt s p)=false:=by rw [hc];rfl
 have h6:digitB (cAt s p)=false:=by rw [hc];rfl
 have hf:=Xra isNotLf h;rw [h4,h6];simp [hlen _ hf]
end Go.Rk
namespace Go.Rk
open Go.Proofs
open Go Go.RowKit
structure Two (base:Nat) (ts cs:List Tok) (a b:Ba) (w:Aa):Prop where
  ht:Toks base ts a w
  hc:Toks base cs b w
  n3:∀ k,a.ownBlock=some k→b.ownBlock≠some k
theorem Two.grow{base:Nat}{ts cs:List Tok}{a b:Ba}{w w':Aa}(h:Two base ts cs a b w)(g:G w w'):Two base ts cs a b w':=⟨Xk h.ht g,Xk h.hc g,h.n3⟩
theorem Two.putT{base:Nat}{ts cs:List Tok}{a b:Ba}{w w1:Aa}{ta':Option Addr}{m tc':Nat}{t:Tok}{xs:List Ba}(h:Two base ts cs a b w)(h1:w1.ownsRow base 94 3 (.slice ta' m tc') m xs)(hg:w.grownBy w1 a.ownBlock)
 (hat:(Da ta' m tc').ownBlock=a.ownBlock∨(Da ta' m tc').ownBlock=some w.heap.size) (hm:m=ts.length+1) (hx:xs=toksCells ts++tokCells t):Two base (ts++[t]) cs (.slice ta' m tc') b w1:=by
 subst hm hx;refine ⟨?_,Ybb h.hc h.n3 hg,Wna h.hc h.n3 hat⟩;unfold Toks;rw [Awa,Zna];exact h1
theorem Two.putC{base:Nat}{ts cs:List Tok}{a b:Ba}{w w1:Aa}{ta':Option Addr}{m tc':Nat}{t:Tok}{xs:List Ba}(h:Two base ts cs a b w)(h1:w1.ownsRow base 94 3 (.slice ta' m tc') m xs)(hg:w.grownBy w1 b.ownBlock)
 (hat:(Da ta' m tc').ownBlock=b.ownBlock∨(Da ta' m tc').ownBlock=some w.heap.size) (hm:m=cs.length+1) (hx:xs=toksCells cs++tokCells t):Two base ts (cs++[t]) a (.slice ta' m tc') w1:=by
 subst hm hx;have n3':∀ k,b.ownBlock=some k→a.ownBlock≠some k:=fun k hk he=>h.n3 k he hk;refine ⟨Ybb h.ht n3' hg,?_,fun k hk he=>Wna h.ht n3' hat k he hk⟩;unfold Toks;rw [Awa,Zna];exact h1
theorem Two.below{base:Nat}{ts cs:List Tok}{a b:Ba}{w0 w w1:Aa}(h:Two base ts cs a b w)(g:Below base w0 w)(hz:base≤w.heap.size)(hg:w.grownBy w1 a.ownBlock):Below base w0 w1:=Jx g hg hz (fun k hk=>(h.ht.lt k hk).1)
theorem Two.belowC{base:Nat}{ts cs:List Tok}{a b:Ba}{w0 w w1:Aa}(h:Two base ts cs a b w)(g:Below base w0 w)(hz:base≤w.heap.size)(hg:w.grownBy w1 b.ownBlock):Below base w0 w1:=Jx g hg hz (fun k hk=>(h.hc.lt k hk).1)
theorem Xlf{s:List UInt8}{p:Nat}(ts cs:List Tok)(h:p<s.length):(nextF s p ts cs).1≤s.length:=by
 have f1:=Xra isNotLf h;have f2:=Xra isAlnum h;have f3:=Xra digitB h;have f4:=Jvc (s.drop p);rw [Aha] at f4;unfold nextF;rw [Yye];cases decide (cAt s p=10);cases ((decide (cAt s p=32) || decide (cAt s p=9)) || decide (cAt s p=13));cases preB [47,47] (s.drop p);cases letterB (cAt s p);cases digitB (cAt s p);cases Nat.beq (opLenR (s.drop p)) 0;simp only [Wpg,Wog];omega;simp only [Wpg,Wog];omega;cases badD s p (runN digitB (s.drop p));cases decide (valN 0 ((s.drop p).take (runN digitB (s.drop p)))<9223372036854775808);simp only [Wpg,Wog];omega;simp only [Wpg,Wog];omega;simp only [Wpg,Wog];omega;cases decide ((32:Int)<runN isAlnum (s.drop p));simp only [Wpg,Wog];omega;simp only [Wpg,Wog];omega;simp only [Wpg,Wog];omega;simp only [Wpg,Wog];omega;simp only [Wpg,Wog];omega
def lastT(ts:List Tok):Tok:=ts.getLast?.getD ⟨0,[],0⟩
theorem Qwf(p:Nat)(ts:List Tok):nlTs p ts=bif decide ((0:Int)<ts.length)&&endsT (lastT ts) then ts++[⟨4,[59],p⟩] else ts:=by
 unfold nlTs lastT;rcases Axa ts with rfl|⟨l,x,e⟩;rfl;have e:ts=l++[x]:=by simpa using e
 rw [e,Wig (by simp:(0:Int)<((l++[x]).length:Nat))];simp only [List.getLast?_append,List.getLast?_singleton,Option.some_or,Option.getD_some,Ala];cases h:endsT x <;> simp
theorem Qxf{base:Nat}{ts:List Tok}{ta:Option Addr}{tc:Nat}{u:Aa}(h:Toks base ts (.slice ta ts.length tc) u):∃ bt,0<ts.length→ta=some ⟨bt,0,none⟩∧RowAt u bt (0+((ts.length:Nat)-1:Int).toNat*3) (tokCells (lastT ts)):=by
 rcases Axa ts with rfl|⟨l,x,e⟩;exact ⟨0,fun h=>absurd h Os⟩;have e:ts=l++[x]:=by simpa using e
 subst e;obtain ⟨bt,ct,ev,_,hrow,_⟩:=Vna h Os;injection ev with e1 e2 e3;refine ⟨bt,fun _=>⟨e1,?_⟩⟩;rw [show lastT (l++[x])=x by simp [lastT]];exact Wdd hrow
def allR(s:List UInt8):List Tok×List Tok×Nat×Int:=((allF s).2.1,(allF s).2.2.1,bif !decide ((allF s).2.2.2=0) then (allF s).1 else 0,(allF s).2.2.2)
theorem Qyf(s:List UInt8)(w:Aa):Ret PP 66 #[Str s] w fun v w'=>∃ a b,v = .tuple #[a,b,.int .i64 (allR s).2.2.1,.int .i64 (allR s).2.2.2]∧Two w.heap.size (allR s).1 (allR s).2.1 a b w'∧G w w':=by
 have g:=G.refl w;refine Ji (m:=78) Tryz.func66 J J [(0,True,_)] (Za J (Zo _)) ?_;refine Zn (Zu (Xc J (Xc J (Xc J (Xc J (Ze (kq (Zn (Zn (Zu (Zx J (Zs J (fun _=>Zca Yq (Zc J)) (Uje J J (Ze (kq (Qk J (fun h1=>?_) (fun h1=>?_)))))))))))))))));have hN:allF s=(0,[],[],3):=by unfold allF;rw [h1];rfl
 refine Zn (Zu (Xc J (Xc J (Xc J (Xc J (Ze (kq (Xw (Yqb (ts:=[2,3,4,5]) (vs:=[_,_,_,_]) J J J ?_)))))))));rw [allR,hN];exact ⟨_,_,rfl,⟨Qt _ _ _ _,Qt _ _ _ _,(by intro k h;cases h)⟩,g⟩;have hN:allF s=goF s s.length 0 [] []:=by unfold allF;rw [h1];rfl
 simp only [Wlg] at h1;refine Yp (kq (Zn (Zu (Xc J (Xc J (Ze (kq (Zn (Zu (Xc J (Ze (kq (Zn (Yz (?_)))))))))))))))
 refine Xva (fun (x:Nat×List Tok×List Tok×Nat×(Option Addr×Nat)×(Option Addr×Nat)) u=>Two w.heap.size x.2.1 x.2.2.1 (.slice x.2.2.2.2.1.1 x.2.1.length x.2.2.2.2.1.2) (.slice x.2.2.2.2.2.1 x.2.2.1.length x.2.2.2.2.2.2) u∧x.2.1.length≤x.1∧x.2.2.1.length≤x.1∧x.1≤s.length∧s.length-x.1≤x.2.2.2.1∧goF s x.2.2.2.1 x.1 x.2.1 x.2.2.1=goF s s.length 0 [] []∧G w u)
  (fun x=>[(0,True,Str s),(6,True,.slice x.2.2.2.2.1.1 x.2.1.length x.2.2.2.2.1.2),(7,True,.slice x.2.2.2.2.2.1 x.2.2.1.length x.2.2.2.2.2.2),(8,True,.int .i64 x.1)]) (fun x=>s.length-x.1) (0,[],[],s.length,(none,0),(none,0))
  ⟨⟨Qt _ _ _ _,Qt _ _ _ _,(by intro k h;cases h)⟩,Aaa _,Aaa _,Apa _,Nat.sub_le _ _,rfl,g⟩ (Za rfl (Za rfl (Za rfl (Za rfl (Zo _))))) ?_
 rintro ⟨p,ts,cs,f,⟨ta,tc⟩,⟨ca,cc⟩⟩ u ⟨hT,k1,k2,k3,hf,he,hw⟩;replace hT:Two w.heap.size ts cs (.slice ta ts.length tc) (.slice ca cs.length cc) u:=hT;replace k1:ts.length≤p:=k1;replace k2:cs.length≤p:=k2;replace k3:p≤s.length:=k3;replace hf:s.length-p≤f:=hf;replace he:goF s f p ts cs=goF s s.length 0 [] []:=he;have g:=G.refl u;refine Zn (Zn (Zu (Zx J (Zx J (Zs J (fun _=>Zca Yq (Zc J)) (Znb J J (Ze (kq (Qk J (fun h2=>?_) (fun h2=>?_))))))))));replace h2:p<s.length:=by simp only [Wkg] at h2;omega
 obtain ⟨f',rfl⟩:∃ f',f=f'+1:=⟨f-1,O⟩;rw [goF,Wig h2,Wpg] at he;have hle:=Xlf ts cs h2;refine Yp (kq (Yz (Zn (Zn (Zu (Zx J (Zx J (Zs J (fun _=>Qp Yq (Zc J) (Zc J) (fun _=>by show 0≤(p:Int)∧(p:Int)<s.length;omega)) (Ze (kq (Yz (Zn (Zn (Zu (Jwa J J (Xc J (Ze (kq (?_)))))))))))))))))));refine' Zbe [(0,_,_),(6,_,_),(7,_,_),(8,_,_),(20,_,_)] (Za J (Za J (Za J (Za J (Za J (Za J (Zo _))))))) J (fun hb3=>?y3) (kq ?n3)
 case y3 =>
  refine Zn (Zu (Jwa J J (Xc J (Ze (kq (?_))))));refine' Zbe [(0,_,_),(6,_,_),(7,_,_),(8,_,_),(20,_,_)] (Za J (Za J (Za J (Za J (Za J (Za J (Zo _))))))) J (fun hb4=>?y4) knr
  case y4 =>
   refine Zu (Jwa J J (Xc J (Wp [(21,_,_),(0,_,_),(6,_,_),(7,_,_),(8,_,_),(20,_,_)] (Za J (Za J (Za J (Za J (Za J (Za J (Zo _))))))) (?_))));exact Ze knr
 case n3 =>
  refine Qk J (fun h5=>?_) (fun h5=>?_);replace h5:(decide (cAt s p=32) || (decide (cAt s p=9) || decide (cAt s p=13)))=true:=h5
  have h10:decide (cAt s p=10)=false:=by
   simp only [Bool.or_eq_true,Wkg] at h5;rw [Wlg];omega
  rw [← Bool.or_assoc] at h5;have hst:nextF s p ts cs=(p+1,ts,cs,0):=by unfold nextF;rw [h10,h5];rfl
  rw [hst] at he hle;refine Zn (Zu (Zx J (Zs J (fun _=>Jca (Zc J) Xh (fun _=>by show _≤(p:Int)+1∧(p:Int)+1≤_;omega)) (Xc J (Ze (kq (Zja [(0,_,_),(6,_,_),(7,_,_),(8,_,_)] (Za J (Za J (Za J (Za J (Zo _))))) (Jp J (fun a ha=>?_)))))))));exact ⟨(p+1,ts,cs,f',(ta,tc),(ca,cc)),ha,⟨hT.grow g,by show ts.length≤p+1;omega,by show cs.length≤p+1;omega,h2,by show s.length-(p+1)≤f';omega,he,hw.trans g⟩,by show s.length-(p+1)<s.length-p;omega⟩;replace h5:(decide (cAt s p=32) || (decide (cAt s p=9) || decide (cAt s p=13)))=false:=h5;rw [← Bool.or_assoc] at h5;refine Zn (Zu (Jwa J J (Xc J (Ze (kq (Qk J (fun h6=>?_) (fun h6=>?_)))))));replace h6:decide (cAt s p=10)=true:=h6;have hst:nextF s p ts cs=(p+1,nlTs p ts,cs,0):=by unfold nextF;rw [h6];rfl
  rw [Qwf] at hst;obtain ⟨bt,hbt⟩:=Qxf hT.ht;refine Zn (Zn (Zu (Zx J (Waa Yv J (Uje J J (Zx J (Zv J J J (fun _=>Zm (Zc J)) (Zv J J J (fun _=>Zm (Zc J)) (Zv J J J (fun _=>Uwb Yv (Zz J id)) (Zv J J J (fun _=>Xja (Zz J id) Xh (fun hc=>by show _≤(ts.length:Int)-1∧(ts.length:Int)-1≤_;omega)) (Zv J J J (fun _=>Vaa Yv (Ev.to (v':=.slice (some ⟨bt,0,none⟩) ts.length tc) (Zz J id) (fun hc=>by rw [(hbt (by have:(0:Int)<ts.length:=Wmg hc.2;omega)).1])) (Zz J id) (fun hc=>by have:(0:Int)<ts.length:=Wmg hc.2;show 0≤(ts.length:Int)-1∧(ts.length:Int)-1<ts.length;omega)) (Xz J J J (Zq Wo (Zz J id) J (fun hc=>((hbt (by have:(0:Int)<ts.length:=Wmg hc.2;omega)).2).grow g)) (Qa J J J (fun _=>(Yd Xud Ve (Yi (Zz J id) (Xj)) J)) (fun hc=>Quf (lastT ts) _) (fun w39 g39=>?_))))))))))))));have g:=g.trans g39;refine Zs J (fun _=>Ww (Zc J) (Zz J id)) (Ze (kq (Qk J (fun h7=>?_) (fun h7=>?_))));rw [show (decide ((0:Int)<ts.length)&&endsT (lastT ts))=true from h7,Wpg] at hst;rw [hst] at he hle;have hlm:(ts++[(⟨4,[59],p⟩:Tok)]).length=ts.length+1:=by simp
  refine Zu (Zx J (Zx J (Zsa Xu Qi (pqc J (pqc J (pqc J pq0))) J J (Yf _ J Yv Xu (pqc J pq0) J J ?_))));intro b44 w44 N44;have l44:=N44.ge g;have g:=g.trans N44.g;have E:=(Zla _).new N44;have hw:=hw.trans g;have hT:=hT.grow g;have hz0:=hw.size;refine Qb J Yv Xu J Od (Zc J) hT.ht (Zc J) J N44.blk.row J (by simp only [maxLen];omega) O O ?_;intro ta' tc' w45 ht' hg45 hat;have hw:G w w45:=hT.below hw hw.size hg45;have hT:=hT.putT (t:=⟨4,[59],p⟩) ht' hg45 hat rfl rfl;rw [← hlm];rw [← hlm] at hT;have g:=G.refl w45;refine Xc J (Ze (kq (Zn (Zu (Zx J (Zs J (fun _=>Jca (Zc J) Xh (fun _=>by show _≤(p:Int)+1∧(p:Int)+1≤_;omega)) (Xc J (Ze (kq (Zja [(0,_,_),(6,_,_),(7,_,_),(8,_,_)] (Za J (Za J (Za J (Za J (Zo _))))) (Jp J (fun a ha=>?_))))))))))));exact ⟨(p+1,_,cs,f',(ta',tc'),(ca,cc)),ha,⟨hT.grow g,by show (ts++[(⟨4,[59],p⟩:Tok)]).length≤p+1;omega,by show cs.length≤p+1;omega,h2,by show s.length-(p+1)≤f';omega,he,hw.trans g⟩,by show s.length-(p+1)<s.length-p;omega⟩;rw [show (decide ((0:Int)<ts.length)&&endsT (lastT ts))=false from h7,Wog] at hst;rw [hst] at he hle;refine Yp (kq (Zn (Zu (Zx J (Zs J (fun _=>Jca (Zc J) Xh (fun _=>by show _≤(p:Int)+1∧(p:Int)+1≤_;omega)) (Xc J (Ze (kq (Zja [(0,_,_),(6,_,_),(7,_,_),(8,_,_)] (Za J (Za J (Za J (Za J (Zo _))))) (Jp J (fun a ha=>?_)))))))))));exact ⟨(p+1,ts,cs,f',(ta,tc),(ca,cc)),ha,⟨hT.grow g,by show ts.length≤p+1;omega,by show cs.length≤p+1;omega,h2,by show s.length-(p+1)≤f';omega,he,hw.trans g⟩,by show s.length-(p+1)<s.length-p;omega⟩;replace h6:decide (cAt s p=10)=false:=h6
  have hst:=Voe ts cs h2 (by rw [h6,h5];rfl);refine Yp (kq (Zn (Zu (Zx J (Zx J (Ub J (Yd Xvd Ve (aqc J (aqc J aq0)) J) (Xif s p h2 O _) (fun w51 g51=>?_)))))));have g:=g.trans g51;refine Zx J (Wga J J (Wga J J (Xi J Xu J ?_)));intro b9 w9 N9;have l9:=N9.ge g;have g:=g.trans N9.g;have E:=(Zla _).new N9;refine Yoa Uy J J J E.g0 ?_;intro wS1 hgS1 _ BS;replace E:=E.s0 hgS1 BS;have g:=Yn g hgS1 O;refine Xc J (Ze (kq (Zn (Zn (Zu (Zx J (Uie J J (Ze (kq (Qk J (fun h8=>?_) (fun h8=>?_)))))))))));rw [show (!decide ((nextR s p).2=0))=true from h8,Wpg] at hst;have h0:¬ (nextR s p).2=0:=by simpa using h8
  rw [hst] at he;replace he:(bif decide ((nextR s p).2=0) then goF s f' p ts cs else (p,ts,cs,(nextR s p).2))=goF s s.length 0 [] []:=he;rw [Whg h0,Wog] at he;have hA:allR s=(ts,cs,p,(nextR s p).2):=by rw [allR,hN,← he];simp only;rw [Whg h0];rfl
  refine Zn (Zu (Zx J (Zx J (Zx J (Zx J (Xc J (Xc J (Xc J (Xc J (Ze (kq (Xw (Yqb (ts:=[2,3,4,5]) (vs:=[_,_,_,_]) J J J ?_)))))))))))));rw [hA];exact ⟨_,_,rfl,hT.grow g,hw.trans g⟩;rw [show (!decide ((nextR s p).2=0))=false from h8,Wog] at hst;refine Yp (kq (Zn (Zn (Zu (Xm Joa J (Xr Yk J (E.g0.at_ J) (Jwa J J (Ze (kq (Qk J (fun h9=>?_) (fun h9=>?_)))))))))));rw [show decide ((nextR s p).1.kind=5)=true from h9,Wpg] at hst;have hlt:=Vjc (ts:=ts) (cs:=cs) h2 (by rw [hst]);rw [hst] at he hle hlt;replace hle:p+(nextR s p).1.text.length≤s.length:=hle;replace hlt:p<p+(nextR s p).1.text.length:=hlt;have hlm:(cs++[(nextR s p).1]).length=cs.length+1:=by simp
  refine Zu (Zx J (Vx Wo J J E.g0.row (Yf _ J Yv Xu (pqc J pq0) J J ?_)));intro b65 w65 N65;have l65:=N65.ge g;have g:=g.trans N65.g;replace E:=E.new N65;have q9:(Da ca cs.length cc).ownBlock≠some b9:=Uld hT.hc l9;have hw:=hw.trans g;have hT:=hT.grow g;have hz0:=hw.size;refine Qb J Yv Xu J Od (Zc J) hT.hc (Zc J) J N65.blk.row J (by simp only [maxLen];omega) O O ?_;intro ta' tc' w66 ht' hg66 hat;have hw:G w w66:=hT.belowC hw hw.size hg66;replace E:=E.sel [false,true];replace E:=E.keep hg66 (Aya.2 ⟨((Ne.symm q9)),Aqa _⟩);have hT:=hT.putC (t:=(nextR s p).1) ht' hg66 hat rfl rfl;rw [← hlm];rw [← hlm] at hT;have g:=G.refl w66;refine Xc J (Ze (kq (Zu (Zx J (Xm Qh J (Xr Xb J (E.g0.at_ J) (Zs J (fun _=>Zca Yq (Zc J)) (Zs J (fun _=>Jca (Zc J) (Zc J) (fun _=>by show _≤(p:Int)+((nextR s p).1.text.length:Nat)∧(p:Int)+((nextR s p).1.text.length:Nat)≤_;omega)) (Xc J (Wp [(0,_,_),(6,_,_),(7,_,_),(8,_,_)] (Za J (Za J (Za J (Za J (Zo _))))) (Ze (fun a ha=>?_))))))))))));exact ⟨(p+(nextR s p).1.text.length,ts,_,f',(ta,tc),(ta',tc')),ha,⟨hT.grow g,by show ts.length≤p+(nextR s p).1.text.length;omega,by show (cs++[(nextR s p).1]).length≤p+(nextR s p).1.text.length;omega,hle,by show s.length-(p+(nextR s p).1.text.length)≤f';omega,he,hw.trans g⟩,by show s.length-(p+(nextR s p).1.text.length)<s.length-p;omega⟩;rw [show decide ((nextR s p).1.kind=5)=false from h9,Wog] at hst;have hlt:=Vjc (ts:=ts) (cs:=cs) h2 (by rw [hst]);rw [hst] at he hle hlt;replace hle:p+(nextR s p).1.text.length≤s.length:=hle;replace hlt:p<p+(nextR s p).1.text.length:=hlt
  have hlm:(ts++[(nextR s p).1]).length=ts.length+1:=by simp
  refine Zu (Zx J (Vx Wo J J E.g0.row (Yf _ J Yv Xu (pqc J pq0) J J ?_)));intro b69 w69 N69;have l69:=N69.ge g;have g:=g.trans N69.g;replace E:=E.new N69;have q9:(Da ta ts.length tc).ownBlock≠some b9:=Uld hT.ht l9;have hw:=hw.trans g;have hT:=hT.grow g;have hz0:=hw.size;refine Qb J Yv Xu J Od (Zc J) hT.ht (Zc J) J N69.blk.row J (by simp only [maxLen];omega) O O ?_;intro ta' tc' w70 ht' hg70 hat;have hw:G w w70:=hT.below hw hw.size hg70;replace E:=E.sel [false,true];replace E:=E.keep hg70 (Aya.2 ⟨((Ne.symm q9)),Aqa _⟩);have hT:=hT.putT (t:=(nextR s p).1) ht' hg70 hat rfl rfl;rw [← hlm];rw [← hlm] at hT;have g:=G.refl w70;refine Xc J (Ze (kq (Zu (Zx J (Xm Qh J (Xr Xb J (E.g0.at_ J) (Zs J (fun _=>Zca Yq (Zc J)) (Zs J (fun _=>Jca (Zc J) (Zc J) (fun _=>by show _≤(p:Int)+((nextR s p).1.text.length:Nat)∧(p:Int)+((nextR s p).1.text.length:Nat)≤_;omega)) (Xc J (Wp [(0,_,_),(6,_,_),(7,_,_),(8,_,_)] (Za J (Za J (Za J (Za J (Zo _))))) (Ze (fun a ha=>?_))))))))))));exact ⟨(p+(nextR s p).1.text.length,_,cs,f',(ta',tc'),(ca,cc)),ha,⟨hT.grow g,by show (ts++[(nextR s p).1]).length≤p+(nextR s p).1.text.length;omega,by show cs.length≤p+(nextR s p).1.text.length;omega,hle,by show s.length-(p+(nextR s p).1.text.length)≤f';omega,he,hw.trans g⟩,by show s.length-(p+(nextR s p).1.text.length)<s.length-p;omega⟩
 have hp:p=s.length:=by simp only [Wlg] at h2;omega
 have he:(p,ts,cs,(0:Int))=goF s s.length 0 [] []:=by
  rw [← he]
  cases f with
  | zero=>rfl
  | succ f'=>rw [goF,Whg (by omega:¬ p<s.length)];rfl
 have hA:allR s=(ts,cs,0,0):=by rw [allR,hN,← he];rfl
 refine Jp J (kq (Zn (Zu (Zx J (Zx J (Xc J (Xc J (Xc J (Xc J (Ze (kq (Xw (Yqb (ts:=[2,3,4,5]) (vs:=[_,_,_,_]) J J J ?_)))))))))))));rw [hA];exact ⟨_,_,rfl,hT.grow g,hw.trans g⟩
theorem Xmf(s:List UInt8)(w:Aa):Ret PP 40 #[Str s] w fun v w'=>∃ l,v = .tuple #[l,.int .i64 (scanF s).2.1,.int .i64 (scanF s).2.2]∧Toks w.heap.size (scanF s).1 l w'∧G w w':=by
 have g:=G.refl w;refine WK 21 [0] Tryz.func40 ?_;refine AU ?_;refine CL (Qyf s _) ?_;rintro v11 w11 ⟨a,b,rfl,hT,g11⟩;refine ⟨fun _=>g11,?_⟩;have g:=g.trans g11;refine IF (fun h1=>?_) fun h1=>?_;have h0:(!decide ((allF s).2.2.2=0))=true:=h1;refine RTN ?_;refine ⟨.slice none 0 0,?_,?_,g⟩;show Value.tuple #[_,.int .i64 ((bif !decide ((allF s).2.2.2=0) then (allF s).1 else 0:Nat):Int),_]=_;rw [scanF,h0];rfl;rw [scanF,h0];exact Qt _ _ _ _;have h0:(!decide ((allF s).2.2.2=0))=false:=h1;refine RTN ?_;refine ⟨a,?_,?_,g⟩;rw [scanF,h0];rfl;rw [scanF,h0];exact hT.ht
end Go.Rk
