/- Merged texts. Conditions: each text's own. -/
import Derived.Test.YtmpfjifhkmdbaaaGreatDoorF02
import Derived.Test.YtmpfjifhkmdbaaaGreatDoorF07
import Derived.Test.YtmpfjifhkmdbaaaGreatDoorF06
import Derived.Test.YtmpfjifhkmdbaaaGreatDoorF03
import Derived.Test.YtmpfjifhkmdbaaaGreatDoorF05
set_option linter.unusedSimpArgs false
set_option linter.unusedVariables false
set_option maxHeartbeats 16000000
set_option maxRecDepth 100000
open Bool renaming and_eq_true_iff→Aaa,and_eq_true→Aba,not_true→Ara,false_or→Asa
open List renaming map_append→Aca,mem_singleton→Ada,mem_cons→Aea,getElem_mem→Afa,not_mem_nil→Aha,take_succ_eq_append_getElem→Aia,take_length→Aja,mem_append→Aka,all_eq_true→Ama,getD_eq_getElem?_getD→Ana,getElem?_eq_none→Aoa,length_eq_zero_iff→Apa,forall_mem_cons→Aqa
open Nat renaming le_refl→Aga,zero_le→Ala
namespace Go.Proofs
end Go.Proofs
namespace Go.Rk
open Go.Proofs
open Go Go.RowKit
set_option maxHeartbeats 2000000
structure PsOk (s:List UInt8):Prop where
  tk:TkOk (scanF s).1
  ln:(scanF s).1.length≤100000
  cn:count (fileN (prsT (scanF s).1 s.length).1)≤1000000
theorem Vpe(s:List UInt8)(w:World)(H:PsOk s):Ret PP 16 #[Str s] w fun r w'=>(∃ u,r = .tuple #[u,.int .i64 (parseF s).2.1,.int .i64 (parseF s).2.2]∧RetN (parseF s).1 w.heap.size u w')∧G w w':=by
 obtain ⟨n0,hn0⟩:∃ n,n=w.heap.size:=⟨_,rfl⟩;have X:=Xdf (l:=(scanF s).1) (sz:=s.length) (8*(scanF s).1.length+20);have K:=Xhf (l:=(scanF s).1) (sz:=s.length) H.tk (8*(scanF s).1.length+20);have g:=GT.refl mutP n0 w;have hll:=H.ln;refine WK 75 [0] Tryz.func16 ?_;refine AM fun b2 _ _ _ g E=>?_;refine AU ?_;refine CL (Xmf s _) ?_;rintro _ _ ⟨tl,rfl,hT,ga⟩;refine RC fun g E=>?_;obtain ⟨tp,tc,rfl,_⟩:=Yja hT;replace hT:=Uce (base':=0) hT (Ala _);refine IF (fun h1=>?_) fun h1=>?_;have e1:(!decide ((scanF s).2.2=0))=true:=h1;refine AS fun _ _ _ g E=>?_;refine Xc J (Xc J (Ze (kq (Xw (Zka (rs:=[.cell 2 26,.tmp 3,.tmp 4]) (vs:=[_,_,_]) J J (Zba J Zj J (E.g0.row) (Wua J (Wua J (Ug)))) J ?_)))));have e:parseF s=(nd0,((scanF s).2.1:Int),(scanF s).2.2):=by unfold parseF;rw [e1];rfl
 rw [e];exact ⟨⟨_,rfl,Zy (t:=nd0) rfl (Vj _ _)⟩,Ubf (G.refl w) g O⟩;have e1:(!decide ((scanF s).2.2=0))=false:=h1;refine Yp (kq (Zn (Zu (Zx J (Zx J (Zs J (fun _=>Zca Yq (Zc J)) (Zsa Xga Xha (pqc J (pqc J pq0)) J J (Xza J (Zc J) J ?_))))))));intro b25 w25 N25;have l25:=Wq N25 g.size;have B25:=N25.blk;have x25_2:=N25.ne E.g0;have g:=gtg g N25.g;replace E:=E.grow N25.g;have hT:=Xk hT (N25.g);refine AU ?_;have h:PR (scanF s).1 s.length n0 b25 tp tc ⟨0,false⟩ _:=⟨B25,O,hT,Ala _,H.ln⟩;refine AN fun b9 _ ga _ g E=>?_;have hT:=Xk hT (ga.g);have h:=Ui h;refine AS fun _ ga Ca g E=>?_;have h:=Uc h;refine AU ?_;have hnd1:=E.1;refine Ul (fun (y:Nat×List Nd×PSt) u1=>match y with|⟨f,acc,T⟩=>(PR (scanF s).1 s.length n0 b25 tp tc T u1∧prsL (scanF s).1 s.length (pzN (scanF s).1 s.length (8*(scanF s).1.length+20)) f acc T=prsT (scanF s).1 s.length∧remQ (scanF s).1 T≤f∧acc.length+f≤(scanF s).1.length+1∧∃ v,Blk u1 b9 26 (ndCells (fileN []) v)∧OwnN [b2,b9] w.heap.size u1 acc v)∧GT mutP n0 w u1) _ [(2,True,_),(3,True,_),(4,True,_),(8,True,_),(9,True,_)] (fun (y:Nat×List Nd×PSt)=>match y with|⟨f,acc,T⟩=>[]) (fun (y:Nat×List Nd×PSt)=>match y with|⟨f,acc,T⟩=>f) (((scanF s).1.length+1,[],⟨0,false⟩)) ⟨⟨h,rfl,by have:=Wsa (S:=(⟨0,false⟩:PSt)) (l:=(scanF s).1);omega,by simp,_,E.g0,Jo _ _ _⟩,g⟩ (Ya (blkE E.g1) (Xg _)) (Za J (Za J (Za J (Za J (Za J (Zo _)))))) ?_;clear E;rintro ⟨f,acc,T⟩ u1 ⟨hI1,gl1⟩ ⟨B2,_⟩;replace B2:Blk _ _ _ _:=B2;have g:=gl1;obtain ⟨h,he,hf,hac,v,B9,hO⟩:=hI1;obtain ⟨sa,sc,rfl⟩:=hO.slice;have hTi:=h.hi;have E:=Xoa (L:=[(b9,_,_),(b2,_,_)]) hnd1 ⟨B9,B2,trivial⟩ rfl
 refine AU ?_;refine Xe [3,3,3,0,3,3,3,3,3,0,3,3,3,0,3,3,3] [true,true,true,true,true,true,true,true,true,true,true,true,true,true,true,true,true] [0,1,3,7,15,31,63,127,255,511,63,1087,3135,7231,15423,32767,65535] mix KR ?_;have g:=gtd g;replace E:=E.dr;have hT:=Xk hT (G.drew _);have h:=h.grow (G.drew _);have hO:=hO.grow (G.drew _);refine IF (fun h2=>?_) fun h2=>?_;replace h2:(!T.bad&&decide ((T.ix:Int)<(scanF s).1.length))=true:=h2;have hnb:T.bad=false:=by simpa using (Aaa.1 h2).1
 have hp:=Wra (l:=(scanF s).1) hnb;obtain ⟨f',rfl⟩:∃ f',f=f'+1:=⟨f-1,O⟩;rw [prsL,h2,Wpg] at he;dsimp only at he;have hn2:=(Ubd (sz:=s.length) X T).num hTi;have hn3:=(Um (l:=(scanF s).1) (s:=[59]) Od (declQ (scanF s).1 s.length (pzN (scanF s).1 s.length (8*(scanF s).1.length+20)) T).2).num (Ubd (sz:=s.length) X T hTi).1;have hOlt:=hO.lt;have hrl:=Wsa (S:=T) (l:=(scanF s).1);refine AU ?_;refine Yr (gtP n0) [3,0,3,1,1,2,3,2] [0,1,0,4,12,31,63,127] mix KR [0,1,2,3,4,5,6,7] J ?_;have g:=gtd g;replace E:=E.dr;have hT:=Xk hT (G.drew _);have h:=h.grow (G.drew _);have hO:=hO.grow (G.drew _);refine Zt 0 J J (fun _=>Zg Zf (Zc J)) (Ye 1 J J (fun w1 hx=>Zw Zi (Zc J) (fun _=>(E.g0.gt hx J).at_ J)) (Zt 2 J J (fun _=>Zm (Zc J)) (Zk 3 J J ?_)));refine Zh (L':=[4,5,6,7]) [3,0,3,2,1,2,3,2] J J J ?_;refine CL (PkN.to (Qtf X K) [b2,b9] h O (E.ltm Ob) g.size) ?_;rintro v47 w47 ⟨⟨p47,c47,rfl,q47,k47⟩,h,g47⟩;refine ⟨nw1,?_⟩;have g:=g.trans g47;replace E:=E.gt g47 rfl;have hO:=hO.gt g47 rfl;refine Zr (g47) ?_;refine Zk 4 J J ?_;refine Zh (L':=[5,6,7]) [3,0,3,2,1,2,3,2] J J J ?_;refine CN fun _ _ N48 _ g E=>?_;have k47:=k47.new N48;have h:=h.grow (N48.g);have hO:=hO.grow (N48.g);refine Zr (GT.of_g (N48.g)) ?_;refine Zk 5 J J ?_;refine Yb (L':=[6,7]) [3,0,3,2,1,2,3,2] J J J J ?_;have hOo:=hO;refine Uu J Zd Zp J (Zc J) hO (Zc J) J E.g0.row (Vc k47 q47 Oj (fun j hj=>.inr (hOlt j hj))) (by simp;omega) (by have:=g.size;omega) ⟨by have:=g.size;omega,by have q2:=E.g2.lt;have q9:=E.g1.lt;simp;omega⟩ ?_;intro a49 c49 w49 hO hg49;replace E:=E.sel [false,true,true]
 replace E:=E.keepX hg49 hOo.ne Ob;have g:=Wk g hg49 (fun k hk=>hOo.ge k hk);have h:=h.keepO hg49 hOo;refine Yl ?_;refine Zt 6 J J (fun _=>Zg Zf (Zc J)) (Zk 7 J J ?_);refine Yb (L':=[]) [3,0,3,2,1,2,3,2] J J J J ?_;refine AS fun _ ga Ca g E=>?_;have h:=Uc h;have hO:=Ua hO;refine Yl ?_;refine TK [2,3,4,8,9] ?_;refine AU ?_;refine Xe [3,3,3,0,3,3,3,0,3,3] [true,true,true,true,true,true,true,true,true,true] [0,1,3,7,0,16,48,112,240,511] mix KR ?_;have g:=gtd g;replace E:=E.dr;have hT:=Xk hT (G.drew _);have h:=h.grow (G.drew _);have hO:=hO.grow (G.drew _);refine IF (fun h3=>?_) fun h3=>?_;rw [h3,Wpg] at he;refine AU ?_;refine CL (Wg [59] Od h) ?_;rintro _ _ ⟨rfl,h,ga⟩;refine RC fun g E=>?_;have hO:=hO.gt ga rfl;refine SK [2,3,4,8,9] ?_;refine Ze (fun a ha=>?_);exact ⟨(f',_,_),ha,⟨⟨h,he,O,by simp;omega,_,E.g0,hO⟩,g⟩,(Ya (blkE E.g1) (Xg _)),by show f'<f'+1;omega⟩;rw [h3,Wog] at he;refine KC [2,3,4,8,9] ?_;refine Yp (fun a ha=>?_);exact ⟨(f',_,_),ha,⟨⟨h,he,O,by simp;omega,_,E.g0,hO⟩,g⟩,(Ya (blkE E.g1) (Xg _)),by show f'<f'+1;omega⟩;replace h2:(!T.bad&&decide ((T.ix:Int)<(scanF s).1.length))=false:=h2
 have he:(acc,T)=prsT (scanF s).1 s.length:=by
  rw [← he]
  cases f with
  | zero=>rfl
  | succ f'=>rw [prsL,h2];rfl
 have hcn:=H.cn;rw [← he] at hcn;refine IF (fun h4=>?_) fun h4=>?_;have h4:T.bad=true:=h4;refine AU ?_;refine CL (Vt h) ?_;rintro _ _ ⟨rfl,ga⟩;refine RC fun g E=>?_;refine AS fun _ _ _ g E=>?_;refine RTN ?_;have e:parseF s=(nd0,offQ (scanF s).1 s.length T,4):=by unfold parseF;rw [e1,← he];dsimp only [Wog];rw [h4];rfl
 rw [e];exact ⟨⟨_,rfl,Zy (t:=nd0) rfl (Vj _ _)⟩,Ubf (G.refl w) g O⟩;have h4:T.bad=false:=h4;refine AU ?_;refine CL (Woe (fileN acc) _ _ _ hO.kd hcn) ?_;rintro _ _ ⟨rfl,ga⟩;refine RC fun g E=>?_;have hO:=Uk hO;refine IF (fun h5=>?_) fun h5=>?_;have h5:decide ((50:Int)<(depthN (fileN acc):Nat))=true:=h5;refine AS fun _ _ _ g E=>?_;refine RTN ?_;have e:parseF s=(nd0,0,3):=by unfold parseF;rw [e1,← he];dsimp only [Wog];rw [h4];dsimp only [Wog];rw [h5];rfl
 rw [e];exact ⟨⟨_,rfl,Zy (t:=nd0) rfl (Vj _ _)⟩,Ubf (G.refl w) g O⟩;have h5:decide ((50:Int)<(depthN (fileN acc):Nat))=false:=h5;refine AS fun _ ga _ g E=>?_;have hO:=Ua hO;refine RTN ?_;have e:parseF s=(fileN acc,0,0):=by unfold parseF;rw [e1,← he];dsimp only [Wog];rw [h4];dsimp only [Wog];rw [h5];rfl
 rw [e];exact ⟨⟨_,rfl,Zy (t:=fileN acc) rfl hO.kd⟩,Ubf (G.refl w) g O⟩
theorem Vfb(s:List UInt8)(H:PsOk s)(h0:(parseF s).2.2=0)(hc:count (parseF s).1≤1000000)(w:World)(hL:LaidW w.heap.size w):Ret PP 26 #[Str s] w fun r w'=>(∃ u,r = .tuple #[u,.int .i64 (refCheck (parseF s).1).2.1,.int .i64 (refCheck (parseF s).1).2.2]∧RetN (refCheck (parseF s).1).1 w.heap.size u w')∧G w w':=by
 have g:=G.refl w;refine WK 23 [0] Tryz.func26 ?_;refine AM fun b2 _ ga _ g E=>?_;have nat2:=ga.at_;refine AU ?_;refine CL (Vpe s _ H) ?_;rintro _ w10 ⟨⟨u10,rfl,p10,c10,rfl,hk10⟩,ga⟩;refine RC fun g E=>?_;have hk10:Kd w10 (fun k=>k<w10.heap.size) (parseF s).1.kids (.slice p10 (parseF s).1.kids.length c10):=(Kd.mono hk10 fun k _ h=>h);refine AN fun b5 _ ga _ g E=>?_;have nat5:=ga.at_;have hk10:=Ui hk10;refine AS fun _ ga _ g E=>?_;have hk10:=hk10.keep ga (fun k hk _ he=>by injection he with he;have hk:k<w10.heap.size:=hk;omega);refine IF (fun h1=>?_) fun h1=>?_
 ·exfalso;rw [h0] at h1;exact absurd h1 Od
  done
 refine AU ?_;refine CL (Jsc (parseF s).1 _ _ _ [b2,b5] hk10 hc ((hL.grow g).top) (E.ltm Ob) g.size) ?_;rintro _ _ ⟨⟨p19,c19,rfl,q19,k19⟩,ga⟩;refine RC fun g E=>?_;refine AS fun _ ga _ g E=>?_;have k19:=k19.keep ga Oi;refine RTN ?_;exact ⟨⟨_,rfl,Zy rfl (k19.kdN q19)⟩,g⟩
def smp6A:List UInt8:=List.append [118,97,114,32,103,32,105,110,116] (10::[102,117,110,99,32,109,97,105,110,40,41,32,123,32,120,32,58,61,32,103,59,32,102,117,110,99,40,41,32,123,32,120,32,61,32,120,32,43,32,49,32,125,40,41,32,125])
def Jwc:List UInt8:=[102,117,110,99,32,109,97,105,110,40,41,32,123,32,120,32,61,32,49,32,125]
def Jxc:List UInt8:=[102,117,110,99,32,109,97,105,110,40,41,32,123,32,120,32,58,61,32,110,105,108,32,125]
def Jyc:List UInt8:=[102,117,110,99,32,109,97,105,110,40,41,32,123,32,120,32,58,61,32,49,59,32,120,32,58,61,32,50,32,125]
def Jzc:List UInt8:=[102,117,110,99,32,102,40,41,32,123,32,125]
def tkB(s:List UInt8):Bool:=((scanF s).1.all fun t=>!decide (t.kind=2) || (decide (t.text=[49]) || decide (t.text=[50])))&&(decide ((scanF s).1.length≤100000)&&decide (count (fileN (prsT (scanF s).1 s.length).1)≤1000000))
theorem ps6{s:List UInt8}(h:tkB s=true):PsOk s:=by
 unfold tkB at h;simp only [Aba,Wkg] at h;refine ⟨fun t ht hk=>?_,h.2.1,h.2.2⟩;have h:=Ama.1 h.1 t ht;rw [hk] at h;have h:t.text=[49]∨t.text=[50]:=by simpa using h
 rcases h with h|h <;> rw [h]
 exact ⟨fun c hc=>by rw [Ada.1 hc];decide,by simp,by simp⟩;exact ⟨fun c hc=>by rw [Ada.1 hc];decide,by simp,by simp⟩
theorem tkA:tkB smp6A=true:=by decide +kernel
theorem tkBB:tkB Jwc=true:=by decide +kernel
theorem tkC:tkB Jxc=true:=by decide +kernel
theorem tkD:tkB Jyc=true:=by decide +kernel
theorem tkE:tkB Jzc=true:=by decide +kernel
def chk0(s:List UInt8):Bool:=decide ((parseF s).2.2=0)&&decide (count (parseF s).1≤250)
theorem c0A:chk0 smp6A=true:=by decide +kernel
theorem c0B:chk0 Jwc=true:=by decide +kernel
theorem c0C:chk0 Jxc=true:=by decide +kernel
theorem c0D:chk0 Jyc=true:=by decide +kernel
theorem c0E:chk0 Jzc=true:=by decide +kernel
theorem rA:(refCheck (parseF smp6A).1).2.2=0:=by decide +kernel
theorem rB:(refCheck (parseF Jwc).1).2=(14,5):=by decide +kernel
theorem rC:(refCheck (parseF Jxc).1).2=(19,7):=by decide +kernel
theorem rD:(refCheck (parseF Jyc).1).2=(22,6):=by decide +kernel
theorem rE:(refCheck (parseF Jzc).1).2=(0,5):=by decide +kernel
def useX(t:Nd):Bool:=(((decide (t.kind=27)&&decide (t.text=[120]))&&decide (t.ref=1))&&decide (t.num=0))&&decide (t.ty.kind=1)
def upS(l:List Nd):Int:=(l.map fun t=>bif useX t then t.up else 0).sum
theorem uA:upS (listN (refCheck (parseF smp6A).1).1)=2:=by decide +kernel
theorem Uvb{s:List UInt8}(h:chk0 s=true):(parseF s).2.2=0∧count (parseF s).1≤1000000:=by
 unfold chk0 at h;simp only [Aba,Wkg] at h;exact ⟨h.1,O⟩
theorem Uhd{l:List Nd}{i:Nat}(h:i<l.length):upS (l.take (i+1))=upS (l.take i)+(bif useX l[i] then l[i].up else 0):=by
 unfold upS;rw [Aia h,Aca,List.sum_append];simp
theorem rB1:(refCheck (parseF Jwc).1).2.1=14∧(refCheck (parseF Jwc).1).2.2=5:=by rw [rB];exact ⟨rfl,rfl⟩
theorem rC1:(refCheck (parseF Jxc).1).2.1=19∧(refCheck (parseF Jxc).1).2.2=7:=by rw [rC];exact ⟨rfl,rfl⟩
theorem rD1:(refCheck (parseF Jyc).1).2.1=22∧(refCheck (parseF Jyc).1).2.2=6:=by rw [rD];exact ⟨rfl,rfl⟩
theorem rE1:(refCheck (parseF Jzc).1).2.1=0∧(refCheck (parseF Jzc).1).2.2=5:=by rw [rE];exact ⟨rfl,rfl⟩
theorem cnA:count (refCheck (parseF smp6A).1).1≤1000:=by decide +kernel
theorem lnA:(listN (refCheck (parseF smp6A).1).1).length≤1000:=by decide +kernel
theorem upA0:((listN (refCheck (parseF smp6A).1).1).all fun t=>decide (0≤t.up)&&decide (t.up≤100))=true:=by decide +kernel
theorem Xnf:∀ {l:List Nd},(∀ t∈l,0≤t.up∧t.up≤100)→0≤upS l∧upS l≤100*(l.length:Int)
 | [],_=>⟨Int.le_refl _,Int.le_refl _⟩
 | t::l,h=>by
  have h1:=Xnf (l:=l) fun u hu=>h u (List.mem_cons_of_mem _ hu);have h2:=h t List.mem_cons_self;have e:upS (t::l)=(bif useX t then t.up else 0)+upS l:=by unfold upS;simp
  rw [e,List.length_cons];cases useX t;rw [Wog];omega;rw [Wpg];omega
theorem Vqe(w:World)(hL:LaidW w.heap.size w):Ret PP 10 #[] w fun r w'=>r = .bool true∧G w w':=by
 obtain ⟨A,hA⟩:∃ A,A=(refCheck (parseF smp6A).1).1:=⟨_,rfl⟩;have hcA:count A≤1000:=by rw [hA];exact cnA
 have hlA:(listN A).length≤1000:=by rw [hA];exact lnA
 have hup:∀ t∈listN A,0≤t.up∧t.up≤100:=fun t ht=>by
  have:=Ama.1 upA0 t (by rw [← hA];exact ht);simpa using this
 have huA:upS (listN A)=2:=by rw [hA];exact uA
 have g:=G.refl w;refine Ji (m:=134) Tryz.func10 J J [] (Zo _) ?_;refine Zn (Zu (Xc J (Ze (kq (Zn (Zu (Wm J (Yd Ypa Ve (aqc J aq0) J) (Vfb smp6A (ps6 tkA) (Uvb c0A).1 (Uvb c0A).2 _ ((hL.grow g).top)) ?_)))))));rintro v20 w20 ⟨⟨u20,rfl,p20,c20,rfl,k20⟩,g20⟩;refine ⟨fun _=>g20,?_⟩;have g:=g.trans g20;have k20:Kd w20 (fun k=>k<w20.heap.size) (refCheck (parseF smp6A).1).1.kids (.slice p20 (refCheck (parseF smp6A).1).1.kids.length c20):=Kd.mono k20 fun k _ h=>h;rw [rA,← hA];rw [← hA] at k20;refine Zx J (Wga J J (Wga J J (Wga J J (Xi J Zp J ?_))));intro b1 w1 N1;have l1:=N1.ge g;have nat1:=N1.at_;have nsz1:=N1.size;have gsz1:=g.size;have g:=g.trans N1.g;have k20:=k20.grow (N1.g);have E:=(Zla _).new N1;refine Yoa Xa J J J E.g0 ?_;intro wS1 hgS1 _ BS;replace E:=E.s0 hgS1 BS;have g:=Yn g hgS1 O;have k20:=k20.keep hgS1 (fun k hk _ e=>by injection e with e;omega);refine Xc J (Xc J (Ze (kq (Zn (Zu (Wm J (Yd Ypa Ve (aqc J aq0) J) (Vfb Jwc (ps6 tkBB) (Uvb c0B).1 (Uvb c0B).2 _ ((hL.grow g).top)) ?_))))));rintro v25 w25 ⟨⟨u25,rfl,p25,c25,rfl,_⟩,g25⟩;refine ⟨fun _=>g25,?_⟩;have g:=g.trans g25;replace E:=E.grow g25;have k20:=k20.grow (g25);have sz25:=g25.size;rw [rB1.1,rB1.2];refine Zx J (Wga J J (Wga J J (Wga J J (Xi J Zp J ?_))));intro b4 w4 N4;have l4:=N4.ge g;have nat4:=N4.at_;have nsz4:=N4.size;have gsz4:=g.size;have g:=g.trans N4.g;have k20:=k20.grow (N4.g);replace E:=E.new N4;refine Yoa Xa J J J E.g0 ?_;intro wS2 hgS2 _ BS;replace E:=E.s0 hgS2 BS;have g:=Yn g hgS2 O;have k20:=k20.keep hgS2 (fun k hk _ e=>by injection e with e;omega);refine Xc J (Xc J (Ze (kq (Zn (Zu (Wm J (Yd Ypa Ve (aqc J aq0) J) (Vfb Jxc (ps6 tkC) (Uvb c0C).1 (Uvb c0C).2 _ ((hL.grow g).top)) ?_))))))
 rintro v30 w30 ⟨⟨u30,rfl,p30,c30,rfl,_⟩,g30⟩;refine ⟨fun _=>g30,?_⟩;have g:=g.trans g30;replace E:=E.grow g30;have k20:=k20.grow (g30);have sz30:=g30.size;rw [rC1.1,rC1.2];refine Zx J (Wga J J (Wga J J (Wga J J (Xi J Zp J ?_))));intro b7 w7 N7;have l7:=N7.ge g;have nat7:=N7.at_;have nsz7:=N7.size;have gsz7:=g.size;have g:=g.trans N7.g;have k20:=k20.grow (N7.g);replace E:=E.new N7;refine Yoa Xa J J J E.g0 ?_;intro wS3 hgS3 _ BS;replace E:=E.s0 hgS3 BS;have g:=Yn g hgS3 O;have k20:=k20.keep hgS3 (fun k hk _ e=>by injection e with e;omega);refine Xc J (Xc J (Ze (kq (Zn (Zu (Wm J (Yd Ypa Ve (aqc J aq0) J) (Vfb Jyc (ps6 tkD) (Uvb c0D).1 (Uvb c0D).2 _ ((hL.grow g).top)) ?_))))));rintro v35 w35 ⟨⟨u35,rfl,p35,c35,rfl,_⟩,g35⟩;refine ⟨fun _=>g35,?_⟩;have g:=g.trans g35;replace E:=E.grow g35;have k20:=k20.grow (g35);have sz35:=g35.size;rw [rD1.1,rD1.2];refine Zx J (Wga J J (Wga J J (Wga J J (Xi J Zp J ?_))));intro b10 w10 N10;have l10:=N10.ge g;have nat10:=N10.at_;have nsz10:=N10.size;have gsz10:=g.size;have g:=g.trans N10.g;have k20:=k20.grow (N10.g);replace E:=E.new N10;refine Yoa Xa J J J E.g0 ?_;intro wS4 hgS4 _ BS;replace E:=E.s0 hgS4 BS;have g:=Yn g hgS4 O;have k20:=k20.keep hgS4 (fun k hk _ e=>by injection e with e;omega);refine Xc J (Xc J (Ze (kq (Zn (Zu (Wm J (Yd Ypa Ve (aqc J aq0) J) (Vfb Jzc (ps6 tkE) (Uvb c0E).1 (Uvb c0E).2 _ ((hL.grow g).top)) ?_))))));rintro v40 w40 ⟨⟨u40,rfl,p40,c40,rfl,_⟩,g40⟩;refine ⟨fun _=>g40,?_⟩;have g:=g.trans g40;replace E:=E.grow g40;have k20:=k20.grow (g40);have sz40:=g40.size;rw [rE1.1,rE1.2];refine Zx J (Wga J J (Wga J J (Wga J J (Xi J Zp J ?_))));intro b13 w13 N13;have l13:=N13.ge g;have nat13:=N13.at_
 have nsz13:=N13.size;have gsz13:=g.size;have g:=g.trans N13.g;have k20:=k20.grow (N13.g);replace E:=E.new N13;refine Yoa Xa J J J E.g0 ?_;intro wS5 hgS5 _ BS;replace E:=E.s0 hgS5 BS;have g:=Yn g hgS5 O;have k20:=k20.keep hgS5 (fun k hk _ e=>by injection e with e;omega);refine Xc J (Xc J (Ze (kq (Zn (Zn (Zu (Zx J (Uie J J (Zx J (Zv J J J (fun _=>Zm (Zc J)) (Zv J J J (fun _=>Vsa (Zz J id) Xh) (Zs J (fun _=>Wb (Zc J) (Zz J id)) (Zx J (Zv J J J (fun _=>Zm (Zc J)) (Zv J J J (fun _=>Vsa (Zz J id) Xh) (Zs J (fun _=>Wb (Zc J) (Zz J id)) (?_)))))))))))))))));refine Zx J (Zv J J J (fun _=>Zm (Zc J)) (Zv J J J (fun _=>Vsa (Zz J id) Xh) (Zs J (fun _=>Wb (Zc J) (Zz J id)) (Zx J (Zv J J J (fun _=>Zm (Zc J)) (Zv J J J (fun _=>Vsa (Zz J id) Xh) (Zs J (fun _=>Wb (Zc J) (Zz J id)) (Zx J (Zv J J J (fun _=>Zm (Zc J)) (Zv J J J (fun _=>Vsa (Zz J id) Xh) (Zs J (fun _=>Wb (Zc J) (Zz J id)) (Zx J (Zv J J J (fun _=>Zm (Zc J)) (Zv J J J (fun _=>Vsa (Zz J id) Xh) (Zs J (fun _=>Wb (Zc J) (Zz J id)) (?_))))))))))))))));refine Zx J (Zv J J J (fun _=>Zm (Zc J)) (Zv J J J (fun _=>Vsa (Zz J id) Xh) (Zs J (fun _=>Wb (Zc J) (Zz J id)) (Zx J (Zv J J J (fun _=>Zm (Zc J)) (Zv J J J (fun _=>Vsa (Zz J id) Xh) (Zs J (fun _=>Wb (Zc J) (Zz J id)) (Wp [(0,_,_),(1,_,_),(77,_,_)] (Za J (Za J (Za J (Zo _)))) (Ze (kq (Qk J (fun h1=>?_) (fun h1=>?_))))))))))))
 ·exact absurd h1 Od
  done
 (try simp only [bsimp] at h1);refine Yp (kq (Zn (Zu (Vx Zj J J E.g4.row (Wm J (Yd Xjc Ve (aqc J aq0) J) (Wkd A _ (fun k=>k<w20.heap.size) _ k20 O) ?_)))));rintro v79 w79 ⟨hk79,g79⟩;refine ⟨fun _=>g79,?_⟩;have g:=g.trans g79;replace E:=E.grow g79;obtain ⟨p79,c79,rfl,_⟩:=id hk79;refine Xc J (Ze (kq (Zn (Zu (Xc J (Ze (kq (Zn (Zn (Zu (Xc J (Ze (kq (Yz (Je (fun (i:Nat) u1=>(i≤(listN A).length)∧G w79 u1) [(0,True,_),(16,True,_)] (fun (i:Nat)=>[(17,True,.int .i64 (upS ((listN A).take i))),(18,True,.int .i64 i)]) (fun (i:Nat)=>(listN A).length-i) (0) ⟨Ala _,G.refl _⟩ (Za J (Za J (Za J (Za J (Zo _))))) ?_)))))))))))))));rintro i u1 ⟨hI1,gl1⟩;have g:=g.trans gl1;replace E:=E.grow gl1;have hk79:=hk79.grow gl1;refine Zn (Zn (Zu (Zx J (Zx J (Waa Zd J (Znb J J (Ze (kq (Qk J (fun h2=>?_) (fun h2=>?_))))))))))
 ·replace h2:i<(listN A).length:=by simp only [Wkg] at h2;omega
  obtain ⟨e0,p1,c1,hcell,_⟩:=Yy (t:=lT (listN A)) hk79 (i:=i) h2;have eL:Zb (lT (listN A)) i=(listN A)[i]:=Wc (t:=lT (listN A)) h2;rw [eL] at hcell;have hb1:=Xnf (l:=(listN A).take i) fun t ht=>hup t (List.mem_of_mem_take ht);have hb2:=hup _ (Afa h2);have hb3:((listN A).take i).length≤1000:=by rw [List.length_take];omega
  refine Yp (kq (Zn (Yz (Zn (Zu (Zx J (Zx J (Xsa Zd J J O e0 (Xm Wh J (Xr Yk J (hcell.one (i:=0) J) (Jwa J J (Zx J (Zv J J J (fun _=>Zm (Zc J)) (Zv J J J (fun _=>Zm (Zc J)) (Zv J J J (fun _=>Xs Zd (Zz J id) (Zz J id) (fun _=>O) (fun _=>e0)) (Zv J J J (fun _=>Zg Wx (Zz J id)) (?_)))))))))))))))));refine Xz J J J (Zw Xb (Zz J id) (fun _=>hcell.one (i:=1) J)) (Zv J J J (fun _=>Wqc (Zz J id) Xh) (Zs J (fun _=>Ww (Zc J) (Zz J id)) (Zx J (Zv J J J (fun _=>Zm (Zc J)) (Zv J J J (fun _=>Zm (Zc J)) (Zv J J J (fun _=>Xs Zd (Zz J id) (Zz J id) (fun _=>O) (fun _=>e0)) (Zv J J J (fun _=>Zg Yga (Zz J id)) (Xz J J J (Zw Yk (Zz J id) (fun _=>hcell.one (i:=7) J)) (Zv J J J (fun _=>Jza (Zz J id) Xh) (Zs J (fun _=>Ww (Zc J) (Zz J id)) (Zx J (Zv J J J (fun _=>Zm (Zc J)) (Zv J J J (fun _=>Zm (Zc J)) (Zv J J J (fun _=>Xs Zd (Zz J id) (Zz J id) (fun _=>O) (fun _=>e0)) (Zv J J J (fun _=>Zg Qr (Zz J id)) (?_))))))))))))))));refine Xz J J J (Zw Yk (Zz J id) (fun _=>hcell.one (i:=2) J)) (Zv J J J (fun _=>Jza (Zz J id) Xh) (Zs J (fun _=>Ww (Zc J) (Zz J id)) (Zx J (Zv J J J (fun _=>Zm (Zc J)) (Zv J J J (fun _=>Zm (Zc J)) (Zv J J J (fun _=>Xs Zd (Zz J id) (Zz J id) (fun _=>O) (fun _=>e0)) (Zv J J J (fun _=>Zg Yh (Zz J id)) (Zv J J J (fun _=>Zg Ulb (Zz J id)) (Xz J J J (Zw Yk (Zz J id) (fun _=>hcell.one (i:=5) J)) (Zv J J J (fun _=>Jza (Zz J id) Xh) (Zs J (fun _=>Ww (Zc J) (Zz J id)) (Ze (kq (Qk J (fun h3=>?_) (fun h3=>?_)))))))))))))))
  ·have hu:useX (listN A)[i]=true:=h3
   refine Zu (Zx J (Zx J (Zx J (Xsa Zd J J O e0 (Xm Zkb J (Xr Yk J (hcell.one (i:=8) J) (Vta J J O (Xc J (Ze (kq (Zu (Zx J (Vta J J O (Xc J (Wp [(17,_,_),(18,_,_),(0,_,_),(16,_,_)] (Za J (Za J (Za J (Za J (Zo _))))) (Ze (fun a ha=>?_)))))))))))))))));exact ⟨i+1,by rw [Uhd h2,hu,Wpg];exact ha,⟨h2,gl1⟩,O⟩
  have hu:useX (listN A)[i]=false:=h3;refine Yp (kq (Zu (Zx J (Vta J J O (Xc J (Wp [(17,_,_),(18,_,_),(0,_,_),(16,_,_)] (Za J (Za J (Za J (Za J (Zo _))))) (Ze (fun a ha=>?_))))))));exact ⟨i+1,by rw [Uhd h2,hu,Wog,Int.add_zero];exact ha,⟨h2,gl1⟩,O⟩
 replace h2:i=(listN A).length:=by simp only [Wlg] at h2;omega
 subst h2;refine Jp J (kq (Zn (Zu (Zx J (Jwa J J (Xc J (Ze (kq (Xw (Qd J J ?_))))))))));rw [Aja,huA];exact ⟨rfl,g⟩
theorem Yaa(t:Nd):(plainT t).kind=t.kind:=by rw [Jj];rfl
section
variable (F t:Nd) (x:Nat→Ck)
end
def Al(x t:Nd):Prop:=plainT x=plainT t
structure Pl (t:Nd) (c:Ck):Prop where
  ex:exprB t=true→∀ S,Al (c.ex S).1 t
  mem:t.kind=28→exprB t=true→∀ S,Al (c.mem S).1.1 t
  rcv:t.kind≠28→exprB t=true→∀ S,(c.rcv S).2=true→Al (c.rcv S).1 t
  cal:exprB t=true→∀ S,Al (c.cal S).1.1 t
  st:stmtB t=true→∀ S,Al (c.st S).1 t
  blk:blockB t=true→∀ S,Al (c.blk S).1 t
  ifs:ifB t=true→∀ S,Al (c.ifs S).1 t
  sts:blockB t=true→∀ S,Al (c.sts S).1 t
  cas:Qca t=true→∀ f S,Al (c.cas f S).1 t
theorem Zlb{t:Nd}{ks:List Nd}{y:Ty}(h:ks.map plainT=t.kids.map plainT):Al (annT t ks y) t:=by
 unfold Al
 have hn:numS (annT t ks y)=numS t:=by
  unfold numS;rw [show Jb (annT t ks y)=Jb t from rfl];cases h:Jb t;rfl;show (bif Jb t then t.num else 0)=_;rw [h]
 rw [Jj,Jj t,hn];show Nd.mk t.kind t.text (numS t) t.pos (ks.map plainT) ty0 0 0=_;rw [h]
theorem Qdc{t:Nd}(h:t.kids=[]):Al (clnT t) t:=Zlb (ks:=[]) (y:=ty0) (by rw [h])
theorem Uid{t:Nd}{ks:List Nd}{y:Ty}{n r u:Int}(hc:Jb t=false)(h:ks.map plainT=t.kids.map plainT):Al (.mk t.kind t.text n t.pos ks y r u) t:=by
 unfold Al;have e1:numS (.mk t.kind t.text n t.pos ks y r u)=0:=by unfold numS;rw [show Jb (.mk t.kind t.text n t.pos ks y r u)=Jb t from rfl,hc];rfl
 have e2:numS t=0:=by unfold numS;rw [hc];rfl
 rw [Jj,Jj t,e1,e2];show Nd.mk t.kind t.text 0 t.pos (ks.map plainT) ty0 0 0=_;rw [h]
theorem Xld{t:Nd}{k:Int}(h:t.kind=k)(h1:k≠24)(h2:k≠25):Jb t=false:=by unfold Jb;rw [Whg O,Whg O];rfl
theorem Xmd{t:Nd}(h:t.kids.length=2):t.kids=[Zb t 0,Zb t 1]:=by
 unfold Zb
 match t.kids,h with
 | [a,b],_=>rfl
theorem Vre{t:Nd}(h:t.kids.length=3):t.kids=[Zb t 0,Zb t 1,Zb t 2]:=by
 unfold Zb
 match t.kids,h with
 | [a,b,c],_=>rfl
theorem Xof{t:Nd}(h:t.kids.length=1):t.kids=[Zb t 0]:=by
 unfold Zb
 match t.kids,h with
 | [a],_=>rfl
theorem Xfc{t a:Nd}{y:Ty}(hl:t.kids.length=1)(h:Al a (Zb t 0)):Al (annT t [a] y) t:=Zlb (by rw [Xof hl];show [plainT a]=[plainT _];rw [h])
theorem Vse{t a b:Nd}{y:Ty}(hl:t.kids.length=2)(h:Al a (Zb t 0))(k:Al b (Zb t 1)):Al (annT t [a,b] y) t:=Zlb (by rw [Xmd hl];show [plainT a,plainT b]=[plainT _,plainT _];rw [h,k])
theorem al_3{t a b c:Nd}{y:Ty}(hl:t.kids.length=3)(h:Al a (Zb t 0))(k:Al b (Zb t 1))(j:Al c (Zb t 2)):Al (annT t [a,b,c] y) t:=Zlb (by rw [Vre hl];show [plainT a,plainT b,plainT c]=[plainT _,plainT _,plainT _];rw [h,k,j])
theorem Xpf{t:Nd}{y:Ty}(hl:t.kids=[]):Al (annT t [] y) t:=Zlb (by rw [hl])
theorem Xfb{t:Nd}(hx:exprB t=true)(hk:t.kind=24∨t.kind=25∨t.kind=26∨t.kind=27∨t.kind=34):t.kids=[]:=by
 rw [← Jn] at hx;unfold Xea at hx
 have fin:∀ q:Bool,(q&&lenK t 0)=true→t.kids=[]:=fun q h=>by
  have hz:=(Aaa.1 h).2;unfold lenK at hz;simpa using hz
 rcases hk with h|h|h|h|h <;> rw [h] at hx
 have hx:((plainB t&&lenK t 0)&&decide (0≤t.num))=true:=hx;exact fin _ (Aaa.1 hx).1;have hx:((plainB t&&lenK t 0)&&(decide (t.num=0) || decide (t.num=1)))=true:=hx;exact fin _ (Aaa.1 hx).1;exact fin _ hx;exact fin _ hx;exact fin _ hx
section
variable {F t:Nd} {x:Nat→Ck} {S:CSt}
theorem Xnd(ht:t.kind=27)(hl:t.kids=[]):Al (lookR F S t).1 t:=by
 have hc:=Xld ht Od Od;have e:([]:List Nd).map plainT=t.kids.map plainT:=by rw [hl]
 unfold lookR;split;exact Uid hc e;cases decide (0≤(findD F 6 t.text).2);cases decide (0≤(findD F 4 t.text).2);exact Qdc hl;exact Uid hc e;exact Uid hc e
theorem Xqf(X:∀ i,Pl (Zb t i) (x i))(ht:t.kind=28)(hx:exprB t=true):Al (memR F t x S).1.1 t:=by
 obtain ⟨_,hl,h0⟩:=sh28 ht hx;have a:=(X 0).ex h0 S;unfold memR;dsimp only;cases decide (((x 0).ex S).1.ty.kind=4);exact Xfc hl a;simp only [Wpg];split <;> exact Xfc hl a
theorem Xjg(ht:t.kind≠28)(hx:exprB t=true)(hr:(rcvR F t x S).2=true):Al (rcvR F t x S).1 t:=by
 unfold rcvR at hr ⊢;cases h1:decide (t.kind=27);rw [h1,Whg ht] at hr;cases hr;have h:=Wmg h1;exact Xnd h (Xfb hx O)
theorem Xrf(X:∀ i,Pl (Zb t i) (x i))(hk:t.kids.all exprB=true)(ps:List Ty)(S:CSt):∀ i,i+1≤t.kids.length→(argA t x ps S i).1.map plainT=((t.kids.take (i+1)).drop 1).map plainT
 | 0,_=>by rw [List.drop_take];rfl
 | i+1,hi=>by
  show ((argA t x ps S i).1++[((x (i+1)).ex (argA t x ps S i).2).1]).map plainT=_;rw [Aca,Xrf X hk ps S i O,Aia (show i+1<t.kids.length by omega),List.drop_append_of_le_length (by rw [List.length_take];omega),Aca];have a:=(X (i+1)).ex (Vb hk O) (argA t x ps S i).2;rw [← Wc (show i+1<t.kids.length by omega)];show _++[plainT _]=_++[plainT _];rw [a]
theorem Qzf(X:∀ i,Pl (Zb t i) (x i))(ht:t.kind=30)(hx:exprB t=true):Al (callR t x S).1 t:=by
 obtain ⟨h1,h2⟩:=sh30 ht hx;have a:=(X 0).cal (Vb h2 h1) S;refine Zlb ?_;rw [List.map_cons,Xrf X h2 _ _ _ O,a,Nat.sub_add_cancel h1,Aja]
 obtain ⟨k,ks,e⟩:∃ k ks,t.kids=k::ks:=by
  match h:t.kids,h1 with
  | k::ks,_=>exact ⟨k,ks,rfl⟩
 unfold Zb;rw [e];rfl
theorem Xkg(X:∀ i,Pl (Zb t i) (x i))(ht:t.kind=38)(hx:exprB t=true):Al (litR t x S).1 t:=Xfc (sh38 ht hx).1 ((X 0).blk (sh38 ht hx).2 _)
theorem al_op(X:∀ i,Pl (Zb t i) (x i))(hx:exprB t=true)(hk:t.kind∈([29,31,32,33,35,36,37]:List Int)):Al (opR t x S).1 t:=by
 unfold opR;dsimp only [wantS];cases h29:decide (t.kind=29)
 case true =>
  obtain ⟨hl,h0,h1⟩:=sh29 (Wmg h29) hx;exact Vse hl ((X 0).ex h0 _) ((X 1).ex h1 _)
 cases h31:decide (t.kind=31)
 case true =>
  obtain ⟨_,hl,h0⟩:=sh31 (Wmg h31) hx;exact Xfc hl ((X 0).ex h0 _)
 cases h32:decide (t.kind=32)
 case true =>
  obtain ⟨_,hl,h0,h1⟩:=sh32 (Wmg h32) hx;exact Vse hl ((X 0).ex h0 _) ((X 1).ex h1 _)
 cases h33:decide (t.kind=33)
 case true =>
  obtain ⟨hl,h0⟩:=sh33 (Wmg h33) hx;exact Xfc hl ((X 0).ex h0 _)
 cases h37:decide (t.kind=37)
 case true =>
  obtain ⟨hl,h0⟩:=sh37 (Wmg h37) hx;exact Xfc hl ((X 0).ex h0 _)
 cases h35:decide (t.kind=35)
 case true =>
  obtain ⟨hl,h0⟩:=sh35 (Wmg h35) hx;exact Xfc hl ((X 0).ex h0 _)
 simp only [Wlg] at h29 h31 h32 h33 h37 h35;simp only [Aea,Aha,or_false] at hk;have h36:t.kind=36:=by omega
 obtain ⟨hl,h0⟩:=sh36 h36 hx;rw [Wig h36];exact Xfc hl ((X 0).ex h0 _)
theorem Yze{t:Nd}(hx:exprB t=true)(h24:t.kind≠24)(h25:t.kind≠25)(h26:t.kind≠26)(h38:t.kind≠38)(h30:t.kind≠30)(h27:t.kind≠27)(h28:t.kind≠28)(h34:t.kind≠34):t.kind∈([29,31,32,33,35,36,37]:List Int):=by
 have hx:=(Aaa.1 hx).1;unfold expK at hx;rw [Jra] at hx;simp only [Aea,Aha,or_false] at hx ⊢;omega
theorem Jyf(X:∀ i,Pl (Zb t i) (x i))(hx:exprB t=true):Al (exR F t x S).1 t:=by
 unfold exR;cases h24:decide (t.kind=24);case true=>exact Xpf (Xfb hx (.inl (Wmg h24)))
 cases h25:decide (t.kind=25);case true=>exact Xpf (Xfb hx (.inr (.inl (Wmg h25))))
 cases h26:decide (t.kind=26);case true=>exact Xpf (Xfb hx (.inr (.inr (.inl (Wmg h26)))))
 cases h38:decide (t.kind=38);case true=>exact Xkg X (Wmg h38) hx
 cases h30:decide (t.kind=30);case true=>exact Qzf X (Wmg h30) hx
 cases h27:decide (t.kind=27);case true=>exact Xnd (Wmg h27) (Xfb hx (.inr (.inr (.inr (.inl (Wmg h27))))))
 cases h28:decide (t.kind=28);case true=>exact Xqf X (Wmg h28) hx
 cases h34:decide (t.kind=34);case true=>exact Xpf (Xfb hx (.inr (.inr (.inr (.inr (Wmg h34))))))
 simp only [Wlg] at h24 h25 h26 h38 h30 h27 h28 h34;exact al_op X hx (Yze hx h24 h25 h26 h38 h30 h27 h28 h34)
theorem Xlg(X:∀ i,Pl (Zb t i) (x i))(hx:exprB t=true):Al (calR F t x S).1.1 t:=by
 unfold calR;dsimp only;cases h1:(decide (t.kind=28)&&((x 0).rcv S).2);simp only [Wog];cases h2:(decide (t.kind=27)&&((lookR F S t).2&&decide ((lookR F S t).1.ref=3)));exact Jyf X hx;have h27:=Wmg (Aaa.1 h2).1;exact Xnd h27 (Xfb hx (.inr (.inr (.inr (.inl h27)))));obtain ⟨h1,h2⟩:=Aaa.1 h1;have ht:=Wmg h1;obtain ⟨_,hl,h0⟩:=sh28 ht hx
 have a:Al (rcvX t x S).1 (Zb t 0):=by
  unfold rcvX;cases h3:decide ((Zb t 0).kind=28);exact (X 0).rcv (Wng h3) h0 S h2;exact (X 0).mem (Wmg h3) h0 S
 exact Xfc hl a
theorem Xsf(X:∀ i,Pl (Zb t i) (x i))(hb:t.kids.all stmtB=true)(S:CSt):∀ i,i≤t.kids.length→(stA x S i).1.map plainT=(t.kids.take i).map plainT
 | 0,_=>rfl
 | i+1,hi=>by
  show ((stA x S i).1++[((x i).st (stA x S i).2).1]).map plainT=_;rw [Aca,Xsf X hb S i O,Aia (show i<t.kids.length by omega),Aca];have a:=(X i).st (Vb hb O) (stA x S i).2;rw [← Wc (show i<t.kids.length by omega)];show _++[plainT _]=_++[plainT _];rw [a]
theorem Jud(X:∀ i,Pl (Zb t i) (x i))(hb:blockB t=true):Al (stsR t x S).1 t:=Zlb (by rw [Xsf X (sh10 hb) S _ (Aga _),Aja])
theorem Jaa{t:Nd}(h:noneB t=true):t.kids=[]:=Apa.1 (Qm h).2.2
theorem Xae(X:∀ i,Pl (Zb t i) (x i))(hx:noneB (Zb t 0)=true∨exprB (Zb t 0)=true):Al (condR (Zb t 0) (x 0) S).1 (Zb t 0):=by
 unfold condR;cases h1:decide ((Zb t 0).kind=9);exact (X 0).ex (hx.resolve_left fun q=>Wng h1 (Qm q).1) S;exact Qdc (hx.elim Jaa fun q=>absurd (Wmg h1) (Vpa q))
theorem Jzf(X:∀ i,Pl (Zb t i) (x i))(hb:ifB t=true):Al (ifR t x S).1 t:=by
 obtain ⟨hl,h0,h1,h2⟩:=sh18 hb;unfold ifR;dsimp only;refine al_3 hl (Xae X (.inr h0)) ((X 1).blk h1 _) ?_;cases h3:decide ((Zb t 2).kind=10);cases h4:decide ((Zb t 2).kind=18);rcases h2 with q|q|q;rw [Jc q] at h3;cases h3;rw [show (Zb t 2).kind=18 from Wmg (Aaa.1 q).1] at h4;cases h4;exact Qdc (Jaa q);refine (X 2).ifs ?_ _;have h4:=Wmg h4;rcases h2 with q|q|q;rw [Jc q] at h4;cases h4;exact q;rw [(Qm q).1] at h4;cases h4;refine (X 2).blk ?_ _;have h3:=Wmg h3;rcases h2 with q|q|q;exact q;rw [show (Zb t 2).kind=18 from Wmg (Aaa.1 q).1] at h3;cases h3;rw [(Qm q).1] at h3;cases h3
theorem Vte{t:Nd}(h:Jxb t=true)(h9:t.kind=9):t.kids=[]:=by
 rw [← Qnb,Jyb] at h;rw [h9] at h;have h:(stmtB t || noneB t)=true:=h;rcases Bool.or_eq_true_iff.1 h with q|q;exact absurd h9 (Utb q);exact Jaa q
theorem Xmg(X:∀ i,Pl (Zb t i) (x i))(hb:Qca t=true)(f:Bool):Al (casR t x f S).1 t:=by
 obtain ⟨hk,hl,hc,hb1⟩:=sh23 hb;unfold casR;dsimp only;refine Vse hl ?_ ((X 1).sts hb1 _);cases h1:decide ((Zb t 0).kind=9);exact (X 0).st ((Yrc hc).resolve_left (Wng h1)) _;exact Qdc (Vte hc (Wmg h1))
theorem Xbe(X:∀ i,Pl (Zb t i) (x i))(hb:t.kids.all Qca=true)(S:CSt):∀ i,i≤t.kids.length→(selA t x S i).1.map plainT=(t.kids.take i).map plainT
 | 0,_=>rfl
 | i+1,hi=>by
  show ((selA t x S i).1++[((x i).cas (selA t x S i).2.1 (selA t x S i).2.2).1]).map plainT=_;rw [Aca,Xbe X hb S i O,Aia (show i<t.kids.length by omega),Aca];have a:=(X i).cas (Vb hb O) (selA t x S i).2.1 (selA t x S i).2.2;rw [← Wc (show i<t.kids.length by omega)];show _++[plainT _]=_++[plainT _];rw [a]
theorem Xce(t:Nd):Al (plainT t) t:=Qpb t
theorem Xtf{t:Nd}{ks:List Nd}{k:Nat}(hc:t.kind=6∨t.kind=11)(h:ks.map plainT=t.kids.map plainT):Al (dclT t ks k) t:=Uid (hc.elim (fun h=>Xld h Od Od) fun h=>Xld h Od Od) h
theorem Xng(X:∀ i,Pl (Zb t i) (x i))(ht:t.kind=6)(hb:varB t=true):Al (varR F t x S).1 t:=by
 obtain ⟨_,hl,h0,h1⟩:=sh6 hb;unfold varR;dsimp only;refine Xtf (.inl ht) ?_;rw [Xmd hl]
 have a:Al (bif decide ((Zb t 1).kind=9) then (clnT (Zb t 1),localS F (Zb t 0) S) else (((x 1).ex (localS F (Zb t 0) S)).1,failU (Uq (ofF (Zb t 0)).1 ((x 1).ex (localS F (Zb t 0) S)).1.ty) (Zb t 1).pos 7 ((x 1).ex (localS F (Zb t 0) S)).2)).1 (Zb t 1):=by
  cases h2:decide ((Zb t 1).kind=9);exact (X 1).ex (h1.resolve_left fun q=>Wng h2 (Qm q).1) _;exact Qdc (h1.elim Jaa fun q=>absurd (Wmg h2) (Vpa q))
 show [plainT (plainT _),plainT _]=[plainT _,plainT _];rw [Qpb,a]
theorem Xog(X:∀ i,Pl (Zb t i) (x i))(ht:t.kind=11)(hb:stmtB t=true):Al (defR t x S).1 t:=by
 obtain ⟨_,hl,h0⟩:=sh11 ht hb;have a:=(X 0).ex h0 S;unfold defR;dsimp only;refine Xtf (.inr ht) ?_;rw [Xof hl];show [plainT _]=[plainT _];rw [a]
theorem Xde{t:Nd}(hb:stmtB t=true)(h10:t.kind≠10)(h18:t.kind≠18)(h12:t.kind≠12)(h22:t.kind≠22)(h6:t.kind≠6)(h11:t.kind≠11)(h19:t.kind≠19)(h20:t.kind≠20)(h16:t.kind≠16):t.kids.length=1∧exprB (Zb t 0)=true:=by
 have hx:=(Aaa.1 hb).1;unfold stK at hx;rw [Jra] at hx;simp only [Aea,Aha,or_false] at hx;rcases hx with e|e|e|e|e|e|e|e|e|e|e|e|e|e;exact absurd e h6;exact absurd e h10;exact absurd e h11;exact absurd e h12;exact sh13 e hb;exact sh14 e hb;exact sh15 e hb;exact absurd e h16;exact sh17 e hb;exact sh21 e hb;exact absurd e h18;exact absurd e h19;exact absurd e h20;exact absurd e h22
theorem al_st(X:∀ i,Pl (Zb t i) (x i))(hb:stmtB t=true):Al (stR F t x S).1 t:=by
 unfold stR;dsimp only;cases h10:decide (t.kind=10);case true=>exact Jud X (sh10s (Wmg h10) hb)
 cases h18:decide (t.kind=18);case true=>exact Jzf X (sh18s (Wmg h18) hb)
 cases h12:decide (t.kind=12)
 case true =>
  obtain ⟨hl,h0,h1⟩:=sh12 (Wmg h12) hb;exact Vse hl ((X 0).ex h0 _) ((X 1).ex h1 _)
 cases h22:decide (t.kind=22);case true=>exact Zlb (by rw [Xbe X (sh22 (Wmg h22) hb) S _ (Aga _),Aja])
 cases h6:decide (t.kind=6);case true=>exact Xng X (Wmg h6) (sh6s (Wmg h6) hb)
 cases h11:decide (t.kind=11);case true=>exact Xog X (Wmg h11) hb
 cases h19:decide (t.kind=19)
 case true =>
  obtain ⟨hl,h0,h1⟩:=sh19 (Wmg h19) hb;exact Vse hl (Xae X h0) ((X 1).blk h1 _)
 cases h20:decide (t.kind=20)
 case true =>
  obtain ⟨h1,h2⟩:=sh20 (Wmg h20) hb;simp only [Wog,Wpg];unfold retR;dsimp only;cases h3:decide ((t.kids.length:Int)=1);exact Xpf (Apa.1 (by have:=Wng h3;omega));have h3:t.kids.length=1:=by have:=Wmg h3;omega
  exact Xfc h3 ((X 0).ex (Vb h2 O) _)
 cases h16:decide (t.kind=16)
 case true =>
  obtain ⟨hl,h0,h1⟩:=sh16 (Wmg h16) hb;exact Vse hl ((X 0).ex h0 _) ((X 1).ex h1 _)
 simp only [Wlg] at h10 h18 h12 h22 h6 h11 h19 h20 h16;obtain ⟨hl,h0⟩:=Xde hb h10 h18 h12 h22 h6 h11 h19 h20 h16;have a:=(X 0).ex h0 S;simp only [Wog,wantS];cases decide (t.kind=17);case true=>exact Xfc hl a
 cases decide (t.kind=21);case true=>exact Xfc hl a
 exact Xfc hl a
theorem pl_f(X:∀ i,Pl (Zb t i) (x i)):Pl t (ckF F t x) :=
 ⟨fun hx S=>Jyf X hx,fun ht hx S=>Xqf X ht hx,fun ht hx S hr=>Xjg ht hx hr,fun hx S=>Xlg X hx,fun hb S=>al_st X hb,fun hb S=>Jud X hb,fun hb S=>Jzf X hb,fun hb S=>Jud X hb,fun hb f S=>Xmg X hb f⟩
end
theorem pl_0:Pl nd0 ck0:=⟨fun _ _=>rfl,fun _ _ _=>rfl,fun _ _ _ h=>(by cases h),fun _ _=>rfl,fun _ _=>rfl,fun _ _=>rfl,fun _ _=>rfl,fun _ _=>rfl,fun _ _ _=>rfl⟩
theorem pl_t(F:Nd):∀ t,Pl t (ckT F t):=by
 refine Nd.ind fun t ih=>?_;rw [Ywa];refine pl_f fun i=>?_;by_cases h:i<t.kids.length;rw [Vk h,Wc h];exact ih _ (Afa h);have e1:ckX F t i=ck0:=by rw [ckX];simp only [Ana,List.getElem?_map];rw [Aoa O];rfl
 have e2:Zb t i=nd0:=by unfold Zb;simp only [Ana];rw [Aoa O];rfl
 rw [e1,e2];exact pl_0
theorem Xuf(F p:Nd)(hp:∀ f∈p.kids,f.kind=3)(S:CSt):∀ i,i≤p.kids.length→(parA F p S i).1.map plainT=(p.kids.take i).map plainT
 | 0,_=>rfl
 | i+1,hi=>by
  rw [parA];dsimp only;rw [Aca,Xuf F p hp S i O,Aia (show i<p.kids.length by omega),Aca,← Wc (show i<p.kids.length by omega)];have hk:=hp (Zb p i) (by rw [Wc (show i<p.kids.length by omega)];exact Afa _);have a:Al (.mk (Zb p i).kind (Zb p i).text (declN (parA F p S i).2) (Zb p i).pos ((Zb p i).kids.map plainT) ty0 1 0) (Zb p i):=Uid (Xld hk Od Od) (by rw [List.map_map];exact List.map_congr_left fun k _=>Qpb k);show _++[plainT _]=_++[plainT _];rw [a]
theorem Xpg{F n:Nd}(S:CSt)(hk:n.kind=4)(hp:permF n=true):Al (funR F n S).1 n:=by
 obtain ⟨hl,⟨p1,p2⟩,hr,b1,b2⟩:=pf4 hk hp;refine al_3 hl ?_ (Xce _) ((pl_t F (Zb n 2)).sts (by unfold blockB;rw [b1,b2];rfl) _);exact Zlb (by rw [Xuf F (Zb n 0) (fun f hf=>(Wea (.inr p1) p2 f hf).1) _ _ (Aga _),Aja])
theorem Jaf{F n:Nd}(S:CSt)(hp:permF n=true):Al (dclR F n S).1 n:=by
 unfold dclR;cases h2:decide (n.kind=2);case true=>exact Xce n
 cases h6:decide (n.kind=6);case true=>exact Xce n
 cases h4:decide (n.kind=4);case true=>exact Xpg S (Wmg h4) hp
 exact Xce n
theorem Xee{F:Nd}(hp:∀ d∈F.kids,permF d=true)(S:CSt):∀ i,i≤F.kids.length→(dclA F S i).1.map plainT=(F.kids.take i).map plainT
 | 0,_=>rfl
 | i+1,hi=>by
  rw [dclA];dsimp only;rw [Aca,Xee hp S i O,Aia (show i<F.kids.length by omega),Aca,← Wc (show i<F.kids.length by omega)];have a:=Jaf (F:=F) (dclA F S i).2 (hp (Zb F i) (by rw [Wc (show i<F.kids.length by omega)];exact Afa _));show _++[plainT _]=_++[plainT _];rw [a]
theorem Vue{t:Nd}(h:permF t=true):∀ k∈t.kids,permF k=true:=by
 rw [Jm,Aba,Ama] at h;exact h.2
theorem Qsb{F:Nd}(h:validB F=true):F.kind=1∧permF F=true:=by
 unfold validB permB at h;simp only [Aba,Wkg] at h;exact ⟨h.1,h.2.1⟩
theorem Jbf{F:Nd}(hv:validB F=true):Al (refA F) F:=by
 obtain ⟨h1,hp⟩:=Qsb hv;exact Zlb (by rw [Xee (Vue hp) _ _ (Aga _),Aja])
theorem Jcf{F:Nd}(hv:validB F=true):count (refA F)=count F:=by rw [← Xqc (refA F),Jbf hv,Xqc]
theorem Vve(t:Nd)(v:Value)(D:Nat→Prop)(w:World)(hk:Kd w D t.kids v)(hc:count t≤1048576):Ret PP 11 #[ndV t v] w fun r w'=>r = .bool (decide ((250:Int)<(count t:Nat)))∧G w w':=by
 have g:=G.refl w;obtain ⟨p,c,rfl,_⟩:=id hk;refine WK 6 [0] Tryz.func11 ?_;refine BM fun _ _ ga _ g E=>?_;have nat1:=ga.at_;have hk:=Ui hk;refine AU ?_;refine CL (Wfe t _ _ _ hk O) ?_;rintro _ _ ⟨rfl,ga⟩;refine RC fun g E=>?_;refine RTN ?_;exact ⟨rfl,g⟩
theorem Xqg{F:Nd}(h:(refCheck F).2.2=0):validB F=true∧refCheck F=(refA F,0,0):=by
 cases hv:validB F;rw [Xfd hv] at h;exact absurd h (show ¬ (1:Int)=0 by decide);refine ⟨rfl,?_⟩;by_cases he:(refS F).ee=0;exact Vqd hv he;rw [Xed hv he] at h;exact absurd h he
def tqB(x:Nd):Bool :=
 (!decide (x.kind=27) || !decide (x.ref=0))&&(!decide (x.kind=12) || (decide ((x.kids.length:Int)=2)&&Uq (Zb x 0).ty (Zb x 1).ty)) &&
 (!decide (x.kind=32) || (decide ((x.kids.length:Int)=2)&&((binT x.text (Zb x 0).ty (Zb x 1).ty).2&&tyEqB (binT x.text (Zb x 0).ty (Zb x 1).ty).1 x.ty)))
def AllQ(x:Nd):Prop:=∀ y∈listN x,tqB y=true
theorem Xya{x:Nd}(h:tqB x=true)(hk:∀ k∈x.kids,AllQ k):AllQ x:=fun y hy=>by
 rw [Jvb] at hy;rcases Aea.1 hy with e|hy;rw [e];exact h;obtain ⟨k,hm,hy⟩:=List.mem_flatMap.1 hy;exact hk k hm y hy
theorem Zpc{x:Nd}(h27:x.kind≠27)(h12:x.kind≠12)(h32:x.kind≠32):tqB x=true:=by
 unfold tqB;rw [Whg h27,Whg h12,Whg h32];rfl
theorem Jdf(y:Ty):tyEqB y y=true:=by unfold tyEqB;rw [Wig rfl,Wig rfl];rfl
structure Tp (t:Nd) (c:Ck):Prop where
  ex:exprB t=true→∀ S,(c.ex S).2.ee=0→AllQ (c.ex S).1
  mem:t.kind=28→exprB t=true→∀ S,(c.mem S).2.ee=0→AllQ (c.mem S).1.1
  rcv:t.kind≠28→exprB t=true→∀ S,(c.rcv S).2=true→AllQ (c.rcv S).1
  cal:exprB t=true→∀ S,(c.cal S).2.ee=0→AllQ (c.cal S).1.1
  st:stmtB t=true→∀ S,(c.st S).2.ee=0→AllQ (c.st S).1
  blk:blockB t=true→∀ S,(c.blk S).2.ee=0→AllQ (c.blk S).1
  ifs:ifB t=true→∀ S,(c.ifs S).2.ee=0→AllQ (c.ifs S).1
  sts:blockB t=true→∀ S,(c.sts S).2.ee=0→AllQ (c.sts S).1
  cas:Qca t=true→∀ f S,(c.cas f S).2.ee=0→AllQ (c.cas f S).1
theorem Er.z{S T:CSt}(h:Er S T)(h0:T.ee=0):S.ee=0:=Decidable.byContradiction fun hn=>hn ((h hn).1.symm.trans h0)
theorem fs0{a e:Int}{S:CSt}(h:(failS a e S).ee=0)(he:e≠0:=by decide):False:=Vmd he h
theorem Qx{t:Nd}{ks:List Nd}{y:Ty}(h27:t.kind≠27)(h12:t.kind≠12)(h32:t.kind≠32)(hk:∀ k∈ks,AllQ k):AllQ (annT t ks y):=Xya (x:=annT t ks y) (Zpc h27 h12 h32) hk
theorem Xod{t:Nd}(h27:t.kind≠27)(h12:t.kind≠12)(h32:t.kind≠32):AllQ (clnT t):=Xya (x:=clnT t) (Zpc h27 h12 h32) fun k hk=>by cases hk
theorem all1{a:Nd}(h:AllQ a):∀ k∈[a],AllQ k:=fun k hk=>by rw [Ada.1 hk];exact h
theorem all2{a b:Nd}(h:AllQ a)(k:AllQ b):∀ z∈[a,b],AllQ z:=Aqa.2 ⟨h,all1 k⟩
theorem all3{a b c:Nd}(h:AllQ a)(k:AllQ b)(j:AllQ c):∀ z∈[a,b,c],AllQ z:=Aqa.2 ⟨h,all2 k j⟩
section
variable {F t:Nd} {x:Nat→Ck} {S:CSt}
theorem Xpd(ht:t.kind=27)(hr:(lookR F S t).2=true):AllQ (lookR F S t).1:=by
 have fin:∀ (r n u:Int) (y:Ty),r≠0→AllQ (.mk t.kind t.text n t.pos [] y r u):=fun r n u y h=>Xya (x:=.mk t.kind t.text n t.pos [] y r u) (by
  unfold tqB;show ((!decide (t.kind=27) || !decide (r=0))&&(!decide (t.kind=12) || _)&&(!decide (t.kind=32) || _))=true;rw [Wig ht,Whg h,Whg (show ¬ t.kind=12 by omega),Whg (show ¬ t.kind=32 by omega)];rfl) fun k hk=>by cases hk
 unfold lookR at hr ⊢;split at hr;exact fin _ _ _ _ Od;revert hr;cases decide (0≤(findD F 6 t.text).2);cases decide (0≤(findD F 4 t.text).2);intro hr;cases hr;intro _;exact fin _ _ _ _ Od;intro _;exact fin _ _ _ _ Od
theorem Xvf(Z:∀ i,CkS (x i) (cN t i))(X:∀ i,Tp (Zb t i) (x i))(ht:t.kind=28)(hx:exprB t=true)(h0:(memR F t x S).2.ee=0):AllQ (memR F t x S).1.1:=by
 obtain ⟨_,hl,hx0⟩:=sh28 ht hx;have a:=(X 0).ex hx0 S (Er.z (Ydg S) h0);unfold memR at h0 ⊢;dsimp only at h0 ⊢;cases hq:decide (((x 0).ex S).1.ty.kind=4);rw [hq] at h0;exact (fs0 h0).elim;rw [hq] at h0;simp only [Wpg] at h0 ⊢;split;exact Qx O O O (all1 a);rename_i h;rw [h] at h0;exact (fs0 h0).elim
theorem Xrg(ht:t.kind≠28)(hr:(rcvR F t x S).2=true):AllQ (rcvR F t x S).1:=by
 unfold rcvR at hr ⊢;cases h1:decide (t.kind=27);rw [h1,Whg ht] at hr;cases hr;rw [h1] at hr;have hr:(((lookR F S t).2&&decide ((lookR F S t).1.ref=2))&&decide (8≤(lookR F S t).1.ty.kind))=true:=hr;simp only [Aba] at hr;exact Xpd (Wmg h1) hr.1.1
theorem Xwf(Z:∀ i,CkS (x i) (cN t i))(X:∀ i,Tp (Zb t i) (x i))(hk:t.kids.all exprB=true)(ps:List Ty)(S:CSt):∀ i,i+1≤t.kids.length→(argA t x ps S i).2.ee=0→∀ k∈(argA t x ps S i).1,AllQ k
 | 0,_,_,k,hk=>by cases hk
 | i+1,hi,h0,k,hm=>by
  rw [argA] at h0 hm;dsimp only at h0 hm;have h1:=(fu h0).2;rcases Aka.1 hm with hm|hm;exact Xwf Z X hk ps S i O (((Z (i+1)).ex _).e.z h1) k hm;rw [Ada.1 hm];exact (X (i+1)).ex (Vb hk O) _ h1
theorem Jef(Z:∀ i,CkS (x i) (cN t i))(X:∀ i,Tp (Zb t i) (x i))(ht:t.kind=30)(hx:exprB t=true)(h0:(callR t x S).2.ee=0):AllQ (callR t x S).1:=by
 obtain ⟨h1,h2⟩:=sh30 ht hx;unfold callR at h0 ⊢;dsimp only at h0 ⊢;have e0:=Ynd Z ((x 0).cal S).1.2.1 (failU (decide ((t.kids.length:Int)-1=((x 0).cal S).1.2.1.length)) t.pos 7 ((x 0).cal S).2) 0 (t.kids.length-1);rw [Nat.zero_add] at e0;have h3:=(fu (e0.z h0)).2;refine Qx O O O (Aqa.2 ⟨(X 0).cal (Vb h2 h1) S h3,Xwf Z X h2 _ _ _ O h0⟩)
theorem Xsg(X:∀ i,Tp (Zb t i) (x i))(ht:t.kind=38)(hx:exprB t=true)(h0:(litR t x S).2.ee=0):AllQ (litR t x S).1:=Qx O O O (all1 ((X 0).blk (sh38 ht hx).2 _ h0))
theorem tq_op(Z:∀ i,CkS (x i) (cN t i))(X:∀ i,Tp (Zb t i) (x i))(hx:exprB t=true)(hk:t.kind∈([29,31,32,33,35,36,37]:List Int))(h0:(opR t x S).2.ee=0):AllQ (opR t x S).1:=by
 unfold opR at h0 ⊢;dsimp only [wantS] at h0 ⊢;cases h29:decide (t.kind=29)
 case true =>
  rw [h29] at h0;have h29:=Wmg h29;obtain ⟨hl,k0,k1⟩:=sh29 h29 hx;have h1:=(fu h0).2;have h2:=(fu (((Z 1).ex _).e.z h1)).2;exact Qx O O O (all2 ((X 0).ex k0 _ h2) ((X 1).ex k1 _ h1))
 rw [h29] at h0;cases h31:decide (t.kind=31)
 case true =>
  rw [h31] at h0;have h31:=Wmg h31;exact Qx O O O (all1 ((X 0).ex (sh31 h31 hx).2.2 _ (fu h0).2))
 rw [h31] at h0;cases h32:decide (t.kind=32)
 case true =>
  rw [h32] at h0;have h32:=Wmg h32;obtain ⟨_,hl,k0,k1⟩:=sh32 h32 hx;obtain ⟨hb,h1⟩:=fu h0;have h2:=((Z 1).ex _).e.z h1;refine Xya (x:=annT t [((x 0).ex S).1,((x 1).ex ((x 0).ex S).2).1] _) ?_ (all2 ((X 0).ex k0 _ h2) ((X 1).ex k1 _ h1));unfold tqB;show ((!decide (t.kind=27) || _)&&(!decide (t.kind=12) || _)&&(!decide (t.kind=32) || (decide (((2:Nat):Int)=2)&&((binT t.text ((x 0).ex S).1.ty ((x 1).ex ((x 0).ex S).2).1.ty).2&&tyEqB (binT t.text ((x 0).ex S).1.ty ((x 1).ex ((x 0).ex S).2).1.ty).1 (binT t.text ((x 0).ex S).1.ty ((x 1).ex ((x 0).ex S).2).1.ty).1))))=true;rw [hb,Jdf,Whg (show ¬ t.kind=27 by omega),Whg (show ¬ t.kind=12 by omega)];simp
 rw [h32] at h0;simp only [Wog] at h0 ⊢;have a:∀ k,∀ h:(failU k (Zb t 0).pos 7 ((x 0).ex S).2).ee=0∨(failU k t.pos 7 ((x 0).ex S).2).ee=0,((x 0).ex S).2.ee=0:=fun k h=>h.elim (fun h=>(fu h).2) fun h=>(fu h).2;simp only [Wlg] at h29 h31 h32;simp only [Aea,Aha,or_false] at hk;cases h33:decide (t.kind=33)
 case true =>
  rw [h33] at h0;have h33:=Wmg h33;exact Qx O O O (all1 ((X 0).ex (sh33 h33 hx).2 _ (fu h0).2))
 rw [h33] at h0;cases h37:decide (t.kind=37)
 case true =>
  rw [h37] at h0;have h37:=Wmg h37;exact Qx O O O (all1 ((X 0).ex (sh37 h37 hx).2 _ (fu h0).2))
 rw [h37] at h0;cases h35:decide (t.kind=35)
 case true =>
  rw [h35] at h0;have h35:=Wmg h35;exact Qx O O O (all1 ((X 0).ex (sh35 h35 hx).2 _ (fu h0).2))
 rw [h35] at h0;simp only [Wlg] at h33 h37 h35;have h36:t.kind=36:=by omega
 rw [Wig h36] at h0 ⊢;exact Qx O O O (all1 ((X 0).ex (sh36 h36 hx).2 _ (fu h0).2))
theorem Zag(Z:∀ i,CkS (x i) (cN t i))(X:∀ i,Tp (Zb t i) (x i))(hx:exprB t=true)(h0:(exR F t x S).2.ee=0):AllQ (exR F t x S).1:=by
 unfold exR at h0 ⊢;have nil:∀ k∈([]:List Nd),AllQ k:=fun k hk=>by cases hk
 cases h24:decide (t.kind=24);case true=>have:=Wmg h24;exact Qx O O O nil
 rw [h24] at h0;cases h25:decide (t.kind=25);case true=>have:=Wmg h25;exact Qx O O O nil
 rw [h25] at h0;cases h26:decide (t.kind=26);case true=>have:=Wmg h26;exact Qx O O O nil
 rw [h26] at h0;cases h38:decide (t.kind=38);case true=>rw [h38] at h0;exact Xsg X (Wmg h38) hx h0
 rw [h38] at h0;cases h30:decide (t.kind=30);case true=>rw [h30] at h0;exact Jef Z X (Wmg h30) hx h0
 rw [h30] at h0;cases h27:decide (t.kind=27)
 case true =>
  rw [h27] at h0;have h0:(bif (lookR F S t).2 then failU (Ql (lookR F S t).1.ty) t.pos 7 S else failS t.pos 5 S).ee=0:=h0;cases hr:(lookR F S t).2;rw [hr] at h0;exact (fs0 h0).elim;exact Xpd (Wmg h27) hr
 rw [h27] at h0;cases h28:decide (t.kind=28);case true=>rw [h28] at h0;exact Xvf Z X (Wmg h28) hx (fu h0).2
 rw [h28] at h0;cases h34:decide (t.kind=34);case true=>have:=Wmg h34;exact Qx O O O nil
 rw [h34] at h0;simp only [Wlg] at h24 h25 h26 h38 h30 h27 h28 h34;exact tq_op Z X hx (Yze hx h24 h25 h26 h38 h30 h27 h28 h34) h0
theorem Xtg(Z:∀ i,CkS (x i) (cN t i))(X:∀ i,Tp (Zb t i) (x i))(hx:exprB t=true)(h0:(calR F t x S).2.ee=0):AllQ (calR F t x S).1.1:=by
 unfold calR at h0 ⊢;dsimp only at h0 ⊢;cases h1:(decide (t.kind=28)&&((x 0).rcv S).2);rw [h1] at h0;simp only [Wog] at h0 ⊢;cases h2:(decide (t.kind=27)&&((lookR F S t).2&&decide ((lookR F S t).1.ref=3)));rw [h2] at h0;exact Zag Z X hx (fu h0).2;simp only [Aba] at h2;exact Xpd (Wmg h2.1) h2.2.1;rw [h1] at h0;obtain ⟨h1,h2⟩:=Aaa.1 h1;have ht:=Wmg h1;obtain ⟨_,hl,k0⟩:=sh28 ht hx;have h3:(rcvX t x S).2.ee=0:=(fu h0).2
 have a:AllQ (rcvX t x S).1:=by
  unfold rcvX at h3 ⊢;cases h4:decide ((Zb t 0).kind=28);exact (X 0).rcv (Wng h4) k0 S h2;rw [h4] at h3;exact (X 0).mem (Wmg h4) k0 S h3
 exact Qx O O O (all1 a)
theorem Xxf(Z:∀ i,CkS (x i) (cN t i))(X:∀ i,Tp (Zb t i) (x i))(hb:t.kids.all stmtB=true)(S:CSt):∀ i,i≤t.kids.length→(stA x S i).2.ee=0→∀ k∈(stA x S i).1,AllQ k
 | 0,_,_,k,hk=>by cases hk
 | i+1,hi,h0,k,hm=>by
  rw [stA] at h0 hm;dsimp only at h0 hm;rcases Aka.1 hm with hm|hm;exact Xxf Z X hb S i O (((Z i).st _).e.z h0) k hm;rw [Ada.1 hm];exact (X i).st (Vb hb O) _ h0
theorem Jvd(Z:∀ i,CkS (x i) (cN t i))(X:∀ i,Tp (Zb t i) (x i))(hb:blockB t=true)(h0:(stsR t x S).2.ee=0):AllQ (stsR t x S).1:=by
 have:=Jc hb;exact Qx O O O (Xxf Z X (sh10 hb) S _ (Aga _) h0)
theorem Xfe(X:∀ i,Tp (Zb t i) (x i))(hx:noneB (Zb t 0)=true∨exprB (Zb t 0)=true)(h0:(condR (Zb t 0) (x 0) S).2.ee=0):AllQ (condR (Zb t 0) (x 0) S).1:=by
 unfold condR at h0 ⊢;cases h1:decide ((Zb t 0).kind=9);rw [h1] at h0;exact (X 0).ex (hx.resolve_left fun q=>Wng h1 (Qm q).1) S (fu h0).2;have:=Wmg h1;exact Xod O O O
theorem Zbg(Z:∀ i,CkS (x i) (cN t i))(X:∀ i,Tp (Zb t i) (x i))(hb:ifB t=true)(h0:(ifR t x S).2.ee=0):AllQ (ifR t x S).1:=by
 obtain ⟨hl,k0,k1,k2⟩:=sh18 hb;have hk:t.kind=18:=Wmg (Aaa.1 hb).1;unfold ifR at h0 ⊢;dsimp only at h0 ⊢
 have fin:((x 1).blk (condR (Zb t 0) (x 0) S).2).2.ee=0→∀ c,AllQ c→AllQ (annT t [(condR (Zb t 0) (x 0) S).1,((x 1).blk (condR (Zb t 0) (x 0) S).2).1,c] ty0):=fun h c hc =>
  Qx O O O (all3 (Xfe X (.inr k0) (((Z 1).blk _).e.z h)) ((X 1).blk k1 _ h) hc)
 cases h3:decide ((Zb t 2).kind=10);rw [h3] at h0;cases h4:decide ((Zb t 2).kind=18);rw [h4] at h0;rcases k2 with q|q|q;rw [Jc q] at h3;cases h3;rw [show (Zb t 2).kind=18 from Wmg (Aaa.1 q).1] at h4;cases h4;have:=(Qm q).1;exact fin h0 _ (Xod O O O);rw [h4] at h0;have h4:=Wmg h4;refine fin (((Z 2).ifs _).e.z h0) _ ((X 2).ifs ?_ _ h0);rcases k2 with q|q|q;rw [Jc q] at h4;cases h4;exact q;rw [(Qm q).1] at h4;cases h4;rw [h3] at h0;have h3:=Wmg h3;refine fin (((Z 2).blk _).e.z h0) _ ((X 2).blk ?_ _ h0);rcases k2 with q|q|q;exact q;rw [show (Zb t 2).kind=18 from Wmg (Aaa.1 q).1] at h3;cases h3;rw [(Qm q).1] at h3;cases h3
theorem Xug(Z:∀ i,CkS (x i) (cN t i))(X:∀ i,Tp (Zb t i) (x i))(hb:Qca t=true)(f:Bool)(h0:(casR t x f S).2.ee=0):AllQ (casR t x f S).1:=by
 obtain ⟨hk,hl,hc,hb1⟩:=sh23 hb;unfold casR at h0 ⊢;dsimp only at h0 ⊢;have h1:((x 1).sts (bif decide ((Zb t 0).kind=9) then (clnT (Zb t 0),failU f t.pos 6 (openS S)) else (x 0).st (openS S)).2).2.ee=0:=h0;have h2:=((Z 1).sts _).e.z h1;refine Qx O O O (all2 ?_ ((X 1).sts hb1 _ h1));cases h3:decide ((Zb t 0).kind=9);rw [h3] at h2;exact (X 0).st ((Yrc hc).resolve_left (Wng h3)) _ h2;have:=Wmg h3;exact Xod O O O
theorem Xge(Z:∀ i,CkS (x i) (cN t i))(X:∀ i,Tp (Zb t i) (x i))(hb:t.kids.all Qca=true)(S:CSt):∀ i,i≤t.kids.length→(selA t x S i).2.2.ee=0→∀ k∈(selA t x S i).1,AllQ k
 | 0,_,_,k,hk=>by cases hk
 | i+1,hi,h0,k,hm=>by
  rw [selA] at h0 hm;dsimp only at h0 hm;rcases Aka.1 hm with hm|hm;exact Xge Z X hb S i O (((Z i).cas _ _).e.z h0) k hm;rw [Ada.1 hm];exact (X i).cas (Vb hb O) _ _ h0
theorem Xqd{k:Nd}(h:Zza k=true):AllQ (plainT k):=by
 have hk:k.kids=[]:=Apa.1 (Udf h);rw [Qmb,Aba] at h;have h1:k.kind∈[(7:Int),8]:=(Jra _ _).1 h.1;simp only [Aea,Aha,or_false] at h1;refine Xya (Zpc (by rw [Yaa];omega) (by rw [Yaa];omega) (by rw [Yaa];omega)) fun z hz=>?_;rw [Yva,hk] at hz;cases hz
theorem Xyf{ks:List Nd}{k:Nat}(hc:t.kind=6∨t.kind=11)(h:∀ z∈ks,AllQ z):AllQ (dclT t ks k):=Xya (x:=dclT t ks k) (Zpc (by show t.kind≠27;omega) (by show t.kind≠12;omega) (by show t.kind≠32;omega)) h
theorem Xvg(Z:∀ i,CkS (x i) (cN t i))(X:∀ i,Tp (Zb t i) (x i))(ht:t.kind=6)(hb:varB t=true)(h0:(varR F t x S).2.ee=0):AllQ (varR F t x S).1:=by
 obtain ⟨_,hl,k0,k1⟩:=sh6 hb;unfold varR at h0 ⊢;dsimp only at h0 ⊢;have h1:=((Er.refl _).decl _ _ _:Er _ (declS t.text (ofF (Zb t 0)).1 t.pos _)).z h0;refine Xyf (.inl ht) (all2 (Xqd k0) ?_);cases h2:decide ((Zb t 1).kind=9);rw [h2] at h1;exact (X 1).ex (k1.resolve_left fun q=>Wng h2 (Qm q).1) _ (fu h1).2;have:=Wmg h2;exact Xod O O O
theorem Xwg(X:∀ i,Tp (Zb t i) (x i))(ht:t.kind=11)(hb:stmtB t=true)(h0:(defR t x S).2.ee=0):AllQ (defR t x S).1:=by
 unfold defR at h0 ⊢;dsimp only at h0 ⊢;have h1:=((Er.refl _).decl _ _ _:Er _ (declS t.text ((x 0).ex S).1.ty t.pos _)).z h0;exact Xyf (.inr ht) (all1 ((X 0).ex (sh11 ht hb).2.2 _ (fu h1).2))
theorem Xxg(Z:∀ i,CkS (x i) (cN t i))(X:∀ i,Tp (Zb t i) (x i))(ht:t.kind=12)(hb:stmtB t=true)(h0:(asgR t x S).2.ee=0):AllQ (asgR t x S).1:=by
 obtain ⟨hl,k0,k1⟩:=sh12 ht hb;unfold asgR at h0 ⊢;dsimp only at h0 ⊢;obtain ⟨hq,h1⟩:=fu h0;have h2:=(fu (((Z 1).ex _).e.z h1)).2;refine Xya (x:=annT t [_,_] ty0) ?_ (all2 ((X 0).ex k0 _ h2) ((X 1).ex k1 _ h1));unfold tqB;show ((!decide (t.kind=27) || _)&&(!decide (t.kind=12) || (decide (((2:Nat):Int)=2)&&Uq ((x 0).ex S).1.ty _))&&(!decide (t.kind=32) || _))=true;rw [Whg (show ¬ t.kind=27 by omega),Whg (show ¬ t.kind=32 by omega)];simp only [Bool.not_false,Bool.true_or,Bool.true_and,Bool.and_true];rw [show Uq ((x 0).ex S).1.ty (Zb (annT t [_,_] ty0) 1).ty=true from hq];simp
theorem tq_st(Z:∀ i,CkS (x i) (cN t i))(X:∀ i,Tp (Zb t i) (x i))(hb:stmtB t=true)(h0:(stR F t x S).2.ee=0):AllQ (stR F t x S).1:=by
 unfold stR at h0 ⊢;dsimp only at h0 ⊢;cases h10:decide (t.kind=10);case true=>rw [h10] at h0;exact Jvd Z X (sh10s (Wmg h10) hb) h0
 rw [h10] at h0;cases h18:decide (t.kind=18);case true=>rw [h18] at h0;exact Zbg Z X (sh18s (Wmg h18) hb) h0
 rw [h18] at h0;cases h12:decide (t.kind=12);case true=>rw [h12] at h0;exact Xxg Z X (Wmg h12) hb h0
 rw [h12] at h0;cases h22:decide (t.kind=22)
 case true =>
  rw [h22] at h0;have h:=Wmg h22;exact Qx O O O (Xge Z X (sh22 h hb) S _ (Aga _) h0)
 rw [h22] at h0;cases h6:decide (t.kind=6);case true=>rw [h6] at h0;exact Xvg Z X (Wmg h6) (sh6s (Wmg h6) hb) h0
 rw [h6] at h0;cases h11:decide (t.kind=11);case true=>rw [h11] at h0;exact Xwg X (Wmg h11) hb h0
 rw [h11] at h0;cases h19:decide (t.kind=19)
 case true =>
  rw [h19] at h0;have h:=Wmg h19;obtain ⟨hl,k0,k1⟩:=sh19 h hb;have h1:((x 1).blk (condR (Zb t 0) (x 0) S).2).2.ee=0:=h0;exact Qx O O O (all2 (Xfe X k0 (((Z 1).blk _).e.z h1)) ((X 1).blk k1 _ h1))
 rw [h19] at h0;cases h20:decide (t.kind=20)
 case true =>
  rw [h20] at h0;have h:=Wmg h20;obtain ⟨h1,h2⟩:=sh20 h hb;simp only [Wog,Wpg] at h0 ⊢;unfold retR at h0 ⊢;dsimp only at h0 ⊢;cases h3:decide ((t.kids.length:Int)=1);exact Qx O O O (fun k hk=>by cases hk);rw [h3] at h0;have h3:=Wmg h3;exact Qx O O O (all1 ((X 0).ex (Vb h2 O) _ (fu h0).2))
 rw [h20] at h0;simp only [Wog,wantS] at h0 ⊢;cases h16:decide (t.kind=16)
 case true =>
  rw [h16] at h0;have h:=Wmg h16;obtain ⟨hl,k0,k1⟩:=sh16 h hb;have h1:=(fu h0).2;have h2:=(fu (((Z 1).ex _).e.z h1)).2;exact Qx O O O (all2 ((X 0).ex k0 _ h2) ((X 1).ex k1 _ h1))
 rw [h16] at h0;simp only [Wlg] at h10 h18 h12 h22 h6 h11 h19 h20 h16;obtain ⟨hl,k0⟩:=Xde hb h10 h18 h12 h22 h6 h11 h19 h20 h16
 have hst:t.kind≠27∧t.kind≠32:=by
  have hx:=(Aaa.1 hb).1;unfold stK at hx;rw [Jra] at hx;simp only [Aea,Aha,or_false] at hx;omega
 have fin:((x 0).ex S).2.ee=0→AllQ (annT t [((x 0).ex S).1] ty0):=fun h=>Qx hst.1 h12 hst.2 (all1 ((X 0).ex k0 _ h));cases h17:decide (t.kind=17);case true=>rw [h17] at h0;exact fin (fu h0).2
 rw [h17] at h0;cases h21:decide (t.kind=21);case true=>rw [h21] at h0;exact fin (fu h0).2
 rw [h21] at h0;exact fin h0
theorem tp_f(Z:∀ i,CkS (x i) (cN t i))(X:∀ i,Tp (Zb t i) (x i)):Tp t (ckF F t x) :=
 ⟨fun hx S=>Zag Z X hx,fun ht hx S=>Xvf Z X ht hx,fun ht hx S hr=>Xrg ht hr,fun hx S=>Xtg Z X hx,fun hb S=>tq_st Z X hb,fun hb S h=>Jvd Z X hb h,fun hb S=>Zbg Z X hb,fun hb S=>Jvd Z X hb,fun hb f S=>Xug Z X hb f⟩
end
theorem tp_0:Tp nd0 ck0:=by
 have he:exprB nd0=false:=by decide
 have hs:stmtB nd0=false:=by decide
 have hb:blockB nd0=false:=by decide
 have hi:ifB nd0=false:=by decide
 have hc:Qca nd0=false:=by decide
 refine ⟨fun h=>?_,fun _ h=>?_,fun _ _ _ h=>(by cases h),fun h=>?_,fun h=>?_,fun h=>?_,fun h=>?_,fun h=>?_,fun h=>?_⟩;rw [he] at h;cases h;rw [he] at h;cases h;rw [he] at h;cases h;rw [hs] at h;cases h;rw [hb] at h;cases h;rw [hi] at h;cases h;rw [hb] at h;cases h;rw [hc] at h;cases h
theorem tp_t(F:Nd):∀ t,Tp t (ckT F t):=by
 refine Nd.ind fun t ih=>?_;rw [Ywa];refine tp_f (Xoc F t) fun i=>?_;by_cases h:i<t.kids.length;rw [Vk h,Wc h];exact ih _ (Afa h);have e1:ckX F t i=ck0:=by rw [ckX];simp only [Ana,List.getElem?_map];rw [Aoa O];rfl
 have e2:Zb t i=nd0:=by unfold Zb;simp only [Ana];rw [Aoa O];rfl
 rw [e1,e2];exact tp_0
theorem Ujd{f:Nd}{n r u:Int}(hf:f.kind=3)(hp:permF f=true):AllQ (.mk f.kind f.text n f.pos (f.kids.map plainT) ty0 r u):=by
 obtain ⟨hl,ht⟩:=pf3 hf hp;refine Xya (Zpc (by show f.kind≠27;omega) (by show f.kind≠12;omega) (by show f.kind≠32;omega)) fun z hz=>?_;have hz:z∈f.kids.map plainT:=hz;rw [Xof hl] at hz;have hz:z∈[plainT (Zb f 0)]:=hz;rw [Ada.1 hz];exact Xqd ht
theorem Xzf(F p:Nd)(hp:∀ f∈p.kids,f.kind=3∧permF f=true)(S:CSt):∀ i,i≤p.kids.length→∀ k∈(parA F p S i).1,AllQ k
 | 0,_,k,hk=>by cases hk
 | i+1,hi,k,hm=>by
  rw [parA] at hm;dsimp only at hm;rcases Aka.1 hm with hm|hm;exact Xzf F p hp S i O k hm;have hf:=hp (Zb p i) (by rw [Wc (show i<p.kids.length by omega)];exact Afa _);rw [Ada.1 hm];exact Ujd hf.1 hf.2
theorem Vwe{f:Nd}(hf:f.kind=3)(hp:permF f=true):AllQ (plainT f):=by
 rw [Jj];exact Ujd hf hp
theorem Xyg{F n:Nd}(S:CSt)(hk:n.kind=4)(hp:permF n=true)(h0:(funR F n S).2.ee=0):AllQ (funR F n S).1:=by
 obtain ⟨hl,⟨p1,p2⟩,hr,b1,b2⟩:=pf4 hk hp;have h1:((ckT F (Zb n 2)).sts (funS2 F n S)).2.ee=0:=(fu h0).2;refine Qx O O O (all3 (Qx O O O (Xzf F _ (Wea (.inr p1) p2) _ _ (Aga _))) ?_ ((tp_t F (Zb n 2)).sts (by unfold blockB;rw [b1,b2];rfl) _ h1));rcases hr with hr|hr;exact Xqd hr;have:=(Qm hr).1;refine Xya (Zpc (by rw [Yaa];omega) (by rw [Yaa];omega) (by rw [Yaa];omega)) fun z hz=>?_;rw [Yva,Jaa hr] at hz;cases hz
theorem Jff{F n:Nd}(S:CSt)(hn:n.kind=2∨n.kind=6∨n.kind=4)(hv:n.kind=6→Yfa n=false)(hp:permF n=true)(h0:(dclR F n S).2.ee=0):AllQ (dclR F n S).1:=by
 unfold dclR at h0 ⊢;cases h2:decide (n.kind=2)
 case true =>
  have h:=Wmg h2;show AllQ (plainT n);refine Xya (Zpc (by rw [Yaa];omega) (by rw [Yaa];omega) (by rw [Yaa];omega)) fun z hz=>?_;rw [Yva] at hz;obtain ⟨f,hf,rfl⟩:=List.mem_map.1 hz;have:=Wea (.inl h) hp f hf;exact Vwe this.1 this.2
 rw [h2] at h0;cases h6:decide (n.kind=6)
 case true =>
  have h:=Wmg h6;have hv:=hv h;unfold Yfa at hv;rw [Wig h] at hv;have hb:varB n=true:=by unfold varB;rw [Wig h,hp];rfl
  obtain ⟨_,hl,k0,k1⟩:=sh6 hb
  have h9:(Zb n 1).kind=9:=by
   cases q:decide ((Zb n 1).kind=9);rw [q] at hv;simp at hv;exact Wmg q
  show AllQ (plainT n);refine Xya (Zpc (by rw [Yaa];omega) (by rw [Yaa];omega) (by rw [Yaa];omega)) fun z hz=>?_;rw [Yva,Xmd hl] at hz;have hz:z∈[plainT (Zb n 0),plainT (Zb n 1)]:=hz;rcases Aea.1 hz with e|hz;rw [e];exact Xqd k0;rw [Ada.1 hz];have k1:=k1.resolve_right fun q=>Vpa q h9;refine Xya (Zpc (by rw [Yaa];omega) (by rw [Yaa];omega) (by rw [Yaa];omega)) fun z hz=>?_;rw [Yva,Jaa k1] at hz;cases hz
 rw [h6] at h0;simp only [Wlg] at h2 h6;have h4:n.kind=4:=by omega
 rw [Wig h4] at h0 ⊢;exact Xyg S h4 hp h0
theorem Xhe{F:Nd}(hd:∀ d∈F.kids,(d.kind=2∨d.kind=6∨d.kind=4)∧(d.kind=6→Yfa d=false)∧permF d=true)(S:CSt):∀ i,i≤F.kids.length→(dclA F S i).2.ee=0→∀ k∈(dclA F S i).1,AllQ k
 | 0,_,_,k,hk=>by cases hk
 | i+1,hi,h0,k,hm=>by
  rw [dclA] at h0 hm;dsimp only at h0 hm;rcases Aka.1 hm with hm|hm;exact Xhe hd S i O ((Yfg F _ _).z h0) k hm;have h:=hd (Zb F i) (by rw [Wc (show i<F.kids.length by omega)];exact Afa _);rw [Ada.1 hm];exact Jff _ h.1 h.2.1 h.2.2 h0
theorem Vxe{F:Nd}(hv:validB F=true):∀ d∈F.kids,(d.kind=2∨d.kind=6∨d.kind=4)∧(d.kind=6→Yfa d=false)∧permF d=true:=fun d hd=>by
 obtain ⟨h1,hp⟩:=Qsb hv;have hf:=Qya hp;rw [formB,h1] at hf;have hf:((!(F.kids.any Yfa)&&everyB F (memK [2,6,4]))&&F.kids.all permF)=true:=hf;simp only [Aba,Bool.not_eq_true',List.any_eq_false,everyB,Ama,memK,Wkg] at hf;have hk:=hf.1.2 d hd;simp only [Aea,Aha,or_false] at hk;exact ⟨hk,fun _=>by simpa using hf.1.1 d hd,hf.2 d hd⟩
theorem Jgf{F:Nd}(hv:validB F=true)(h0:(refS F).ee=0):AllQ (refA F):=by
 have h1:=(Qsb hv).1;exact Qx O O O (Xhe (Vxe hv) _ _ (Aga _) ((Uaf F _).z h0))
theorem tq_27{x:Nd}(h:tqB x=true)(k:x.kind=27):decide (x.ref=0)=false:=by
 unfold tqB at h;rw [Wig k] at h;simp only [Aba,Ara,Asa,Bool.not_eq_true'] at h;exact h.1.1
theorem tq_12{x:Nd}(h:tqB x=true)(k:x.kind=12):x.kids.length=2∧Uq (Zb x 0).ty (Zb x 1).ty=true:=by
 unfold tqB at h;rw [Wig k] at h;simp only [Aba,Ara,Asa,Wkg] at h;exact ⟨by have:=h.1.2.1;omega,h.1.2.2⟩
theorem tq_32{x:Nd}(h:tqB x=true)(k:x.kind=32):x.kids.length=2∧(binT x.text (Zb x 0).ty (Zb x 1).ty).2=true∧tyEqB (binT x.text (Zb x 0).ty (Zb x 1).ty).1 x.ty=true:=by
 unfold tqB at h;rw [Wig k] at h;simp only [Aba,Ara,Asa,Wkg] at h;exact ⟨by have:=h.2.1;omega,h.2.2.1,h.2.2.2⟩
theorem Jwd(t:Nd)(v:Value)(D:Nat→Prop)(w:World)(hL:LaidW w.heap.size w)(hkD:Kd w D t.kids v)(hc:count t≤1048576):Ret PP 6 #[ndV t v] w fun r w'=>r = .bool true∧G w w':=by
 obtain ⟨n0,hn0⟩:∃ n,n=w.heap.size:=⟨_,rfl⟩;have hk:Kd w (fun k=>k<n0) t.kids v:=Kd.mono hkD fun k _ h=>by rw [hn0];exact h
 obtain ⟨p,c,rfl,_⟩:=id hk;have g:=G.refl w;refine WK 88 [0] Tryz.func6 ?_;refine BM fun b1 w1 ga _ g E=>?_;have nat1:=ga.at_;have hk:=Ui hk;refine AU ?_;refine Wm J (Yd Zed Ve (aq0) J) (Vqe _ ((hL.grow g).top)) ?_;rintro _ _ ⟨rfl,ga⟩;refine RC fun g E=>?_;have hk:=Uk hk;refine IF (fun h1=>?_) fun h1=>?_
 ·exact absurd h1 Od
  done
 refine AU ?_;refine CL (Vve t _ _ _ hk hc) ?_;rintro _ _ ⟨rfl,ga⟩;refine RC fun g E=>?_;have hk:=Uk hk;refine IF (fun h2=>?_) fun h2=>?_
 ·(try simp only [bsimp] at h2)
  refine RTN ?_;exact ⟨rfl,g⟩
 replace h2:count t≤250:=by simp only [Wlg] at h2;omega
 refine AU ?_;refine CL (Jsc t _ _ _ [b1] hk O ((hL.grow g).top) (E.ltm Ob) g.size) ?_;rintro _ _ ⟨⟨p17,c17,rfl,q17,k17⟩,ga⟩;refine RC fun g E=>?_;have hk:=Uk hk;refine AN fun _ _ ga _ g E=>?_;have nat3:=ga.at_;have k17:=Uj k17;have hk:=Ui hk;refine AS fun _ ga _ g E=>?_;have hk:=Ud hk;have k17:=k17.keep ga Oi;refine IF (fun h3=>?_) fun h3=>?_
 ·(try simp only [bsimp] at h3)
  refine RTN ?_;exact ⟨rfl,g⟩
 replace h3:(refCheck t).2.2=0:=by simpa using h3
 obtain ⟨hv,er⟩:=Xqg h3;have eA:(refCheck t).1=refA t:=by rw [er]
 have hcA:count (refCheck t).1≤250:=by rw [eA,Jcf hv];exact h2
 have hz:(refS t).ee=0:=by
  by_cases he:(refS t).ee=0
  · exact he
  · rw [Xed hv he] at h3;exact absurd h3 he
 have hQ:AllQ (refCheck t).1:=by rw [eA];exact Jgf hv hz
 refine AU ?_;refine CL (Wkd (refCheck t).1 _ _ _ k17 O) ?_;rintro _ w24 ⟨hk24,ga⟩;refine RC fun g E=>?_;have hk:=Uk hk;obtain ⟨p24,c24,rfl,_⟩:=id hk24;have hln:=Xbb (refCheck t).1;have hk24:Kd w24 (fun k=>k<w24.heap.size) (listN (refCheck t).1) (.slice p24 (listN (refCheck t).1).length c24):=Kd.mono hk24 fun k _ h=>h;refine AU ?_;refine Je (fun (i:Nat) u1=>(i≤(listN (refCheck t).1).length)∧G w24 u1) [(6,True,_)] (fun (i:Nat)=>[(7,True,.int .i64 i)]) (fun (i:Nat)=>(listN (refCheck t).1).length-i) (0) ⟨Ala _,G.refl _⟩ (Za J (Za J (Zo _))) ?_;rintro i u1 ⟨hI1,gl1⟩;have g:=g.trans gl1;replace E:=E.grow gl1;have hk24:=hk24.grow gl1;have gz1:=gl1.size;refine IF (fun h4=>?_) fun h4=>?_
 ·replace h4:i<(listN (refCheck t).1).length:=by simp only [Wkg] at h4;omega
  obtain ⟨e0,p1,c1,hcell,hkid⟩:=Yy (t:=lT (listN (refCheck t).1)) hk24 (i:=i) h4;obtain ⟨x,ex⟩:∃ x,x=Zb (lT (listN (refCheck t).1)) i:=⟨_,rfl⟩;have hq:tqB x=true:=by rw [ex,Wc (t:=lT (listN (refCheck t).1)) h4];exact hQ _ (Afa h4)
  rw [← ex] at hcell hkid;refine AN fun _ _ ga _ g E=>?_;have l8_gl1:=ga.ge gl1;have nat8:=ga.at_;have gl1:=gl1.trans (ga.g);have hkid:=Ui hkid;refine AS fun _ ga _ g E=>?_;first|replace gl1:=Yn gl1 ga O|clear gl1|skip
  have hkid:=hkid.keep ga (fun k hk hlt e=>by injection e with e;omega);refine IF (fun h5=>?_) fun h5=>?_
  ·replace h5:x.kind=27:=Wmg h5
   refine IF (fun h6=>?_) fun h6=>?_
   ·exact absurd h6 (by rw [tq_27 hq h5];decide)
    done
   refine AU ?_;refine SK [7,6] ?_;refine Ze (fun a ha=>?_);exact ⟨i+1,ha,⟨h4,gl1⟩,O⟩
  replace h5:x.kind≠27:=Wng h5;refine IF (fun h7=>?_) fun h7=>?_
  ·replace h7:x.kind=12:=Wmg h7
   obtain ⟨hl,has⟩:=tq_12 hq h7;refine Zn (Xe [3,0,3,3,3,3,0,3,3,0,3,0,3,3,0,1,3,3] [true,true,true,true,true,true,true,true,true,true,true,true,true,true,true,true,true,true] [0,1,3,7,15,31,63,127,255,511,31,1055,3103,7199,15391,32767,65535,131071] mix KR ?_);have gl1:=gl1.trans (G.drew _);replace E:=E.dr;have hkid:=hkid.grow (G.drew _);obtain ⟨e1,q0,d0,hc0,_⟩:=Yy hkid (i:=0) O;obtain ⟨_,q1,d1,hc1,_⟩:=Yy hkid (i:=1) O;refine Xm Zf J (Xr Zi J (E.g0.at_ J) (Waa Zd J (Uie J J (Zx J (Zv J J J (fun _=>Zg Zf (Zc J)) (Xz J J J (Zw Zi (Zz J id) (fun _=>E.g0.at_ J)) (Zv J J J (fun _=>Xs Zd (Zz J id) Xh (fun _=>O) (fun _=>e1)) (Zv J J J (fun _=>Zg Yh (Zz J id)) (Xz J J J (Zq Zl (Zz J id) J (fun _=>hc0.part 5 2)) (Zv J J J (fun _=>Zg Zf (Zc J)) (Xz J J J (Zw Zi (Zz J id) (fun _=>E.g0.at_ J)) (Zv J J J (fun _=>Xs Zd (Zz J id) Xh (fun _=>O) (fun _=>e1)) (Zv J J J (fun _=>Zg Yh (Zz J id)) (Xz J J J (Zq Zl (Zz J id) J (fun _=>hc1.part 5 2)) (Qa J J J (fun _=>(Yd Jdb Ve (Yi (Zz J id) (Yi (Zz J id) (Xj))) J)) (fun hc=>Qcd (Zb x 0).ty (Zb x 1).ty _) (fun w59 g59=>?_))))))))))))))));have gl1:=gl1.trans (g59);replace E:=E.grow g59;refine IF (fun h8=>?_) fun h8=>?_
   ·exact absurd h8 (by simp [hl,has])
    done
   refine AU ?_;refine SK [7,6] ?_;refine Ze (fun a ha=>?_);exact ⟨i+1,ha,⟨h4,gl1⟩,O⟩
  replace h7:x.kind≠12:=Wng h7;refine IF (fun h9=>?_) fun h9=>?_
  ·replace h9:x.kind=32:=Wmg h9
   obtain ⟨hl,hb2,hb1⟩:=tq_32 hq h9;obtain ⟨e1,q0,d0,hc0,_⟩:=Yy hkid (i:=0) O;obtain ⟨_,q1,d1,hc1,_⟩:=Yy hkid (i:=1) O;refine AU ?_;refine Yr (rowR none) [3,0,3,0,3,3,0,3,0,3,3,0,1,3,3,3,1,2,3] [0,1,0,4,12,28,60,0,128,384,896,1920,4095,8191,16383,16383,0,98303,262143] mix KR [0,1,2,3,4,5,6,7,8,9,10,11,12,13,14,15,16,17,18] J ?_;have g:=gdr g;have gl1:=gl1.trans (G.drew _);replace E:=E.dr;have hk:=hk.grow (G.drew _);have hc0:=hc0.grow (G.drew _);have hc1:=hc1.grow (G.drew _);refine Zt 0 J J (fun _=>Zg Wx (Zc J)) (Ye 1 J J (fun w1 hx=>Zw Xb (Zc J) (fun _=>(E.g0.keep hx (fun h=>nomatch h)).at_ J)) (Zt 2 J J (fun _=>Zg Zf (Zc J)) (Ye 3 J J (fun w1 hx=>Zw Zi (Zc J) (fun _=>(E.g0.keep hx (fun h=>nomatch h)).at_ J)) (Zt 4 J J (fun _=>Xs Zd (Zc J) Xh (fun _=>O) (fun _=>e1)) (Zt 5 J J (fun _=>Zg Yh (Zc J)) (Ye 6 J J (fun w1 hx=>Zq Zl (Zc J) J (fun _=>(hc0.part 5 2).kn hx)) (Zt 7 J J (fun _=>Zg Zf (Zc J)) (Ye 8 J J (fun w1 hx=>Zw Zi (Zc J) (fun _=>(E.g0.keep hx (fun h=>nomatch h)).at_ J)) (Zt 9 J J (fun _=>Xs Zd (Zc J) Xh (fun _=>O) (fun _=>e1)) (Zt 10 J J (fun _=>Zg Yh (Zc J)) (Ye 11 J J (fun w1 hx=>Zq Zl (Zc J) J (fun _=>(hc1.part 5 2).kn hx)) (Wha 12 16 J J ?_ ?_))))))))))))
   ·refine Zh (L':=[13,14,15,16,17,18]) [3,0,3,0,3,3,0,3,0,3,3,0,1,3,3,3,1,2,3] rfl rfl rfl ?_
    refine CP (Zke x.text (Zb x 0).ty (Zb x 1).ty _) (fun w77 g77=>?_);have g:=g.trans g77;have gl1:=gl1.trans (g77);replace E:=E.grow g77;refine Zr ((g77).only _) ?_;refine Zt 13 J J (fun _=>Zm (Zc J)) (Zt 14 J J (fun _=>Jw (Zc J) J) (Zt 15 J J (fun _=>Jw (Zc J) J) (Zk 16 J J ?_)));refine Zh (L':=[17,18]) [3,0,3,0,3,3,0,3,0,3,3,0,1,3,3,3,1,2,3] J J J ?_;refine AN fun _ _ N9 l9 g E=>?_;have l9_gl1:=N9.ge gl1;have nat9:=N9.at_;have gl1:=gl1.trans (N9.g);refine Zr ((N9.g).only _) ?_;refine Zk 17 J J ?_;refine Yb (L':=[18]) [3,0,3,0,3,3,0,3,0,3,3,0,1,3,3,3,1,2,3] J J J J ?_;refine AS fun _ ga _ g E=>?_;first|replace gl1:=Yn gl1 ga O|clear gl1|skip
    refine Yl ?_;refine Zt 18 J J (fun _=>Wd (Zc J)) (TK [6,7,8,9,10] (Qe (kq (Zn (Zu (Zx J (Uhe J (Zx J (Xz J J J (Zq Zl (Zc J) J (fun _=>E.g0.row)) (Zv J J J (fun _=>Zg Yh (Zc J)) (Xz J J J (Zq Zl (Zz J id) J (fun _=>E.g1.row.part 5 2)) (Zv J J J (fun _=>Qwb Wf (Zz J id) (Zz J id) J) (Zs J (fun _=>Wb (Zc J) (Zz J id)) (Ze (kq (Qk J (fun h10=>?_) (fun h10=>?_)))))))))))))))))
    ·exact absurd (show (!(binT x.text (Zb x 0).ty (Zb x 1).ty).2 || !tyEqB (binT x.text (Zb x 0).ty (Zb x 1).ty).1 x.ty)=true from h10) (by rw [hb2,hb1];decide)
     done
    (try simp only [bsimp] at h10);refine AU ?_;refine SK [7,6] ?_;refine Ze (fun a ha=>?_);exact ⟨i+1,ha,⟨h4,gl1⟩,O⟩
   ·refine Zh (L':=[12,13,14,15,17,18]) [3,0,3,0,3,3,0,3,0,3,3,0,1,3,3,3,1,2,3] rfl rfl rfl ?_
    refine AN fun _ _ N9 _ g E=>?_;have l9_gl1:=N9.ge gl1;have nat9:=N9.at_;have gl1:=gl1.trans (N9.g);refine Zr ((N9.g).only _) ?_;refine Zk 12 J J ?_;refine Zh (L':=[13,14,15,17,18]) [3,0,3,0,3,3,0,3,0,3,3,0,1,3,3,3,1,2,3] J J J ?_;refine CP (Zke x.text (Zb x 0).ty (Zb x 1).ty _) (fun w77 g77=>?_);have g:=g.trans g77;have gl1:=gl1.trans (g77);replace E:=E.grow g77;refine Zr ((g77).only _) ?_;refine Zt 13 J J (fun _=>Zm (Zc J)) (Zt 14 J J (fun _=>Jw (Zc J) J) (Zt 15 J J (fun _=>Jw (Zc J) J) (Zk 17 J J ?_)));refine Yb (L':=[18]) [3,0,3,0,3,3,0,3,0,3,3,0,1,3,3,3,1,2,3] J J J J ?_;refine AS fun _ ga _ g E=>?_;first|replace gl1:=Yn gl1 ga O|clear gl1|skip
    refine Yl ?_;refine Zt 18 J J (fun _=>Wd (Zc J)) (TK [6,7,8,9,10] (Qe (kq (Zn (Zu (Zx J (Uhe J (Zx J (Xz J J J (Zq Zl (Zc J) J (fun _=>E.g0.row)) (Zv J J J (fun _=>Zg Yh (Zc J)) (Xz J J J (Zq Zl (Zz J id) J (fun _=>E.g1.row.part 5 2)) (Zv J J J (fun _=>Qwb Wf (Zz J id) (Zz J id) J) (Zs J (fun _=>Wb (Zc J) (Zz J id)) (Ze (kq (Qk J (fun h10=>?_) (fun h10=>?_)))))))))))))))))
    ·exact absurd (show (!(binT x.text (Zb x 0).ty (Zb x 1).ty).2 || !tyEqB (binT x.text (Zb x 0).ty (Zb x 1).ty).1 x.ty)=true from h10) (by rw [hb2,hb1];decide)
     done
    (try simp only [bsimp] at h10);refine AU ?_;refine SK [7,6] ?_;refine Ze (fun a ha=>?_);exact ⟨i+1,ha,⟨h4,gl1⟩,O⟩
  replace h9:x.kind≠32:=Wng h9;refine AU ?_;refine SK [7,6] ?_;refine Ze (fun a ha=>?_);exact ⟨i+1,ha,⟨h4,gl1⟩,O⟩
 skip;refine RTN ?_;exact ⟨rfl,g⟩
end Go.Rk
