/- Merged texts of one road: Pkl, CiP, CiQ, CiR, Lwa, Lwb, CiS. Conditions: each text's own. -/
import Derived.Test.YtmpfjifhkmdbaaaGreatDoorA02
import Derived.Test.YtmpfjifhkmdbaaaGreatDoorA07
import Derived.Test.YtmpfjifhkmdbaaaGreatDoorA06
import Derived.Test.YtmpfjifhkmdbaaaGreatDoorA03
import Derived.Test.YtmpfjifhkmdbaaaGreatDoorA05
set_option linter.unusedSimpArgs false
set_option linter.unusedVariables false
set_option maxHeartbeats 16000000
set_option maxRecDepth 100000
open Bool renaming and_eq_true_iff→Aba,and_eq_true→Afa
open List renaming map_append→Aaa,take_succ_eq_append_getElem→Aca,take_length→Ada,map_map→Aea,getElem_mem→Aga,map_congr_left→Aha,all_eq_true→Aia,getD_eq_getElem?_getD→Aja,map_cons→Ama,mem_cons→Ana,not_mem_nil→Aoa,mem_singleton→Apa,length_eq_zero_iff→Aqa,getElem?_eq_none→Ara,getElem?_eq_getElem→Asa
open Nat renaming le_refl→Aka,zero_le→Ala
namespace Go.Proofs
end Go.Proofs
namespace Go.Rk
open Go.Proofs
open Go Go.RowKit
set_option maxHeartbeats 2000000
structure PsOk (s:List UInt8):Prop where
  tk:TkOk (scanF s).1
  ln:(scanF s).1.length≤100000
  cn:count (fileN (prsT (scanF s).1 s.length).1)≤1000000
theorem Uge(s:List UInt8)(w:World)(H:PsOk s):Ret PP 16 #[Str s] w fun r w'=>(∃ u,r = .tuple #[u,.int .i64 (parseF s).2.1,.int .i64 (parseF s).2.2]∧RetN (parseF s).1 w.heap.size u w')∧G w w':=by
 obtain ⟨n0,hn0⟩:∃ n,n=w.heap.size:=⟨_,rfl⟩;have X:=Xwf (l:=(scanF s).1) (sz:=s.length) (8*(scanF s).1.length+20);have K:=Waf (l:=(scanF s).1) (sz:=s.length) H.tk (8*(scanF s).1.length+20);have g:=GT.refl mutP n0 w;have hll:=H.ln;refine WK 75 [0] Tryz.func16 ?_;refine AM fun b2 _ _ _ g E=>?_;refine AU ?_;refine CL (Wff s _) ?_;rintro _ _ ⟨tl,rfl,hT,ga⟩;refine RC fun g E=>?_;obtain ⟨tp,tc,rfl,_⟩:=Yka hT;replace hT:=Ute (base':=0) hT (Ala _);refine IF (fun h1=>?_) fun h1=>?_;have e1:(!decide ((scanF s).2.2=0))=true:=h1;refine AS fun _ _ _ g E=>?_;refine Xb J (Xb J (Ze (kq (Xv (Zma (rs:=[.cell 2 26,.tmp 3,.tmp 4]) (vs:=[_,_,_]) J J (Zba J Zg J (E.g0.row) (Wua J (Wua J (Ug)))) J ?_)))));have e:parseF s=(nd0,((scanF s).2.1:Int),(scanF s).2.2):=by unfold parseF;rw [e1];rfl
 rw [e];exact ⟨⟨_,rfl,Zy (t:=nd0) rfl (Vi _ _)⟩,Uyf (G.refl w) g O⟩;have e1:(!decide ((scanF s).2.2=0))=false:=h1;refine Ym (kq (Zm (Zu (Zx J (Zx J (Zr J (fun _=>Zca Yt (Zc J)) (Zva Xia Xja (pqc J (pqc J pq0)) J J (Xza J (Zc J) J ?_))))))));intro b25 w25 N25;have l25:=Wo N25 g.size;have B25:=N25.blk;have x25_2:=N25.ne E.g0;have g:=gtg g N25.g;replace E:=E.grow N25.g;have hT:=Xi hT (N25.g);refine AU ?_;have h:PR (scanF s).1 s.length n0 b25 tp tc ⟨0,false⟩ _:=⟨B25,O,hT,Ala _,H.ln⟩;refine AN fun b9 _ ga _ g E=>?_;have hT:=Xi hT (ga.g);have h:=Ui h;refine AS fun _ ga Ca g E=>?_;have h:=Uc h;refine AU ?_;have hnd1:=E.1;refine Um (fun (y:Nat×List Nd×PSt) u1=>match y with|⟨f,acc,T⟩=>(PR (scanF s).1 s.length n0 b25 tp tc T u1∧prsL (scanF s).1 s.length (pzN (scanF s).1 s.length (8*(scanF s).1.length+20)) f acc T=prsT (scanF s).1 s.length∧remQ (scanF s).1 T≤f∧acc.length+f≤(scanF s).1.length+1∧∃ v,Blk u1 b9 26 (ndCells (fileN []) v)∧OwnN [b2,b9] w.heap.size u1 acc v)∧GT mutP n0 w u1) _ [(2,True,_),(3,True,_),(4,True,_),(8,True,_),(9,True,_)] (fun (y:Nat×List Nd×PSt)=>match y with|⟨f,acc,T⟩=>[]) (fun (y:Nat×List Nd×PSt)=>match y with|⟨f,acc,T⟩=>f) (((scanF s).1.length+1,[],⟨0,false⟩)) ⟨⟨h,rfl,by have:=Wsa (S:=(⟨0,false⟩:PSt)) (l:=(scanF s).1);omega,by simp,_,E.g0,Jp _ _ _⟩,g⟩ (Zz (blkE E.g1) (Xf _)) (Za J (Za J (Za J (Za J (Za J (Zn _)))))) ?_;clear E;rintro ⟨f,acc,T⟩ u1 ⟨hI1,gl1⟩ ⟨B2,_⟩;replace B2:Blk _ _ _ _:=B2;have g:=gl1;obtain ⟨h,he,hf,hac,v,B9,hO⟩:=hI1;obtain ⟨sa,sc,rfl⟩:=hO.slice;have hTi:=h.hi;have E:=Xra (L:=[(b9,_,_),(b2,_,_)]) hnd1 ⟨B9,B2,trivial⟩ rfl
 refine AU ?_;refine Xd [3,3,3,0,3,3,3,3,3,0,3,3,3,0,3,3,3] [true,true,true,true,true,true,true,true,true,true,true,true,true,true,true,true,true] [0,1,3,7,15,31,63,127,255,511,63,1087,3135,7231,15423,32767,65535] mix KR ?_;have g:=gtd g;replace E:=E.dr;have hT:=Xi hT (G.drew _);have h:=h.grow (G.drew _);have hO:=hO.grow (G.drew _);refine IF (fun h2=>?_) fun h2=>?_;replace h2:(!T.bad&&decide ((T.ix:Int)<(scanF s).1.length))=true:=h2;have hnb:T.bad=false:=by simpa using (Aba.1 h2).1
 have hp:=Wra (l:=(scanF s).1) hnb;obtain ⟨f',rfl⟩:∃ f',f=f'+1:=⟨f-1,O⟩;rw [prsL,h2,cond_true] at he;dsimp only at he;have hn2:=(Und (sz:=s.length) X T).num hTi;have hn3:=(Un (l:=(scanF s).1) (s:=[59]) Od (declQ (scanF s).1 s.length (pzN (scanF s).1 s.length (8*(scanF s).1.length+20)) T).2).num (Und (sz:=s.length) X T hTi).1;have hOlt:=hO.lt;have hrl:=Wsa (S:=T) (l:=(scanF s).1);refine AU ?_;refine Yq (gtP n0) [3,0,3,1,1,2,3,2] [0,1,0,4,12,31,63,127] mix KR [0,1,2,3,4,5,6,7] J ?_;have g:=gtd g;replace E:=E.dr;have hT:=Xi hT (G.drew _);have h:=h.grow (G.drew _);have hO:=hO.grow (G.drew _);refine Zs 0 J J (fun _=>Zj Zf (Zc J)) (Yg 1 J J (fun w1 hx=>Zw Zi (Zc J) (fun _=>(E.g0.gt hx J).at_ J)) (Zs 2 J J (fun _=>Zl (Zc J)) (Zk 3 J J ?_)));refine Zh (L':=[4,5,6,7]) [3,0,3,2,1,2,3,2] J J J ?_;refine CL (PkN.to (Juf X K) [b2,b9] h O (E.ltm Ob) g.size) ?_;rintro v47 w47 ⟨⟨p47,c47,rfl,q47,k47⟩,h,g47⟩;refine ⟨nw1,?_⟩;have g:=g.trans g47;replace E:=E.gt g47 rfl;have hO:=hO.gt g47 rfl;refine Zq (g47) ?_;refine Zk 4 J J ?_;refine Zh (L':=[5,6,7]) [3,0,3,2,1,2,3,2] J J J ?_;refine CN fun _ _ N48 _ g E=>?_;have k47:=k47.new N48;have h:=h.grow (N48.g);have hO:=hO.grow (N48.g);refine Zq (GT.of_g (N48.g)) ?_;refine Zk 5 J J ?_;refine Ya (L':=[6,7]) [3,0,3,2,1,2,3,2] J J J J ?_;have hOo:=hO;refine Uu J Zd Zp J (Zc J) hO (Zc J) J E.g0.row (Vb k47 q47 Oj (fun j hj=>.inr (hOlt j hj))) (by simp;omega) (by have:=g.size;omega) ⟨by have:=g.size;omega,by have q2:=E.g2.lt;have q9:=E.g1.lt;simp;omega⟩ ?_;intro a49 c49 w49 hO hg49
 replace E:=E.sel [false,true,true];replace E:=E.keepX hg49 hOo.ne Ob;have g:=Wi g hg49 (fun k hk=>hOo.ge k hk);have h:=h.keepO hg49 hOo;refine Yk ?_;refine Zs 6 J J (fun _=>Zj Zf (Zc J)) (Zk 7 J J ?_);refine Ya (L':=[]) [3,0,3,2,1,2,3,2] J J J J ?_;refine AS fun _ ga Ca g E=>?_;have h:=Uc h;have hO:=Ua hO;refine Yk ?_;refine TK [2,3,4,8,9] ?_;refine AU ?_;refine Xd [3,3,3,0,3,3,3,0,3,3] [true,true,true,true,true,true,true,true,true,true] [0,1,3,7,0,16,48,112,240,511] mix KR ?_;have g:=gtd g;replace E:=E.dr;have hT:=Xi hT (G.drew _);have h:=h.grow (G.drew _);have hO:=hO.grow (G.drew _);refine IF (fun h3=>?_) fun h3=>?_;rw [h3,cond_true] at he;refine AU ?_;refine CL (Wc [59] Od h) ?_;rintro _ _ ⟨rfl,h,ga⟩;refine RC fun g E=>?_;have hO:=hO.gt ga rfl;refine SK [2,3,4,8,9] ?_;refine Ze (fun a ha=>?_);exact ⟨(f',_,_),ha,⟨⟨h,he,O,by simp;omega,_,E.g0,hO⟩,g⟩,(Zz (blkE E.g1) (Xf _)),by show f'<f'+1;omega⟩;rw [h3,cond_false] at he;refine KC [2,3,4,8,9] ?_;refine Ym (fun a ha=>?_);exact ⟨(f',_,_),ha,⟨⟨h,he,O,by simp;omega,_,E.g0,hO⟩,g⟩,(Zz (blkE E.g1) (Xf _)),by show f'<f'+1;omega⟩;replace h2:(!T.bad&&decide ((T.ix:Int)<(scanF s).1.length))=false:=h2
 have he:(acc,T)=prsT (scanF s).1 s.length:=by
  rw [← he]
  cases f with
  | zero=>rfl
  | succ f'=>rw [prsL,h2];rfl
 have hcn:=H.cn;rw [← he] at hcn;refine IF (fun h4=>?_) fun h4=>?_;have h4:T.bad=true:=h4;refine AU ?_;refine CL (Vq h) ?_;rintro _ _ ⟨rfl,ga⟩;refine RC fun g E=>?_;refine AS fun _ _ _ g E=>?_;refine RTN ?_;have e:parseF s=(nd0,offQ (scanF s).1 s.length T,4):=by unfold parseF;rw [e1,← he];dsimp only [cond_false];rw [h4];rfl
 rw [e];exact ⟨⟨_,rfl,Zy (t:=nd0) rfl (Vi _ _)⟩,Uyf (G.refl w) g O⟩;have h4:T.bad=false:=h4;refine AU ?_;refine CL (Vbe (fileN acc) _ _ _ hO.kd hcn) ?_;rintro _ _ ⟨rfl,ga⟩;refine RC fun g E=>?_;have hO:=Uk hO;refine IF (fun h5=>?_) fun h5=>?_;have h5:decide ((50:Int)<(depthN (fileN acc):Nat))=true:=h5;refine AS fun _ _ _ g E=>?_;refine RTN ?_;have e:parseF s=(nd0,0,3):=by unfold parseF;rw [e1,← he];dsimp only [cond_false];rw [h4];dsimp only [cond_false];rw [h5];rfl
 rw [e];exact ⟨⟨_,rfl,Zy (t:=nd0) rfl (Vi _ _)⟩,Uyf (G.refl w) g O⟩;have h5:decide ((50:Int)<(depthN (fileN acc):Nat))=false:=h5;refine AS fun _ ga _ g E=>?_;have hO:=Ua hO;refine RTN ?_;have e:parseF s=(fileN acc,0,0):=by unfold parseF;rw [e1,← he];dsimp only [cond_false];rw [h4];dsimp only [cond_false];rw [h5];rfl
 rw [e];exact ⟨⟨_,rfl,Zy (t:=fileN acc) rfl hO.kd⟩,Uyf (G.refl w) g O⟩
theorem Vhb(s:List UInt8)(H:PsOk s)(h0:(parseF s).2.2=0)(hc:count (parseF s).1≤1000000)(w:World)(hL:LaidW w.heap.size w):Ret PP 26 #[Str s] w fun r w'=>(∃ u,r = .tuple #[u,.int .i64 (refCheck (parseF s).1).2.1,.int .i64 (refCheck (parseF s).1).2.2]∧RetN (refCheck (parseF s).1).1 w.heap.size u w')∧G w w':=by
 have g:=G.refl w;refine WK 23 [0] Tryz.func26 ?_;refine AM fun b2 _ ga _ g E=>?_;have nat2:=ga.at_;refine AU ?_;refine CL (Uge s _ H) ?_;rintro _ w10 ⟨⟨u10,rfl,p10,c10,rfl,hk10⟩,ga⟩;refine RC fun g E=>?_;have hk10:Kd w10 (fun k=>k<w10.heap.size) (parseF s).1.kids (.slice p10 (parseF s).1.kids.length c10):=(Kd.mono hk10 fun k _ h=>h);refine AN fun b5 _ ga _ g E=>?_;have nat5:=ga.at_;have hk10:=Ui hk10;refine AS fun _ ga _ g E=>?_;have hk10:=hk10.keep ga (fun k hk _ he=>by injection he with he;have hk:k<w10.heap.size:=hk;omega);refine IF (fun h1=>?_) fun h1=>?_
 ·exfalso;rw [h0] at h1;exact absurd h1 Od
  done
 refine AU ?_;refine CL (Xfc (parseF s).1 _ _ _ [b2,b5] hk10 hc ((hL.grow g).top) (E.ltm Ob) g.size) ?_;rintro _ _ ⟨⟨p19,c19,rfl,q19,k19⟩,ga⟩;refine RC fun g E=>?_;refine AS fun _ ga _ g E=>?_;have k19:=k19.keep ga Oi;refine RTN ?_;exact ⟨⟨_,rfl,Zy rfl (k19.kdN q19)⟩,g⟩
def smp6A:List UInt8:=List.append [118,97,114,32,103,32,105,110,116] (10::[102,117,110,99,32,109,97,105,110,40,41,32,123,32,120,32,58,61,32,103,59,32,102,117,110,99,40,41,32,123,32,120,32,61,32,120,32,43,32,49,32,125,40,41,32,125])
def Zdd:List UInt8:=[102,117,110,99,32,109,97,105,110,40,41,32,123,32,120,32,61,32,49,32,125]
def Zed:List UInt8:=[102,117,110,99,32,109,97,105,110,40,41,32,123,32,120,32,58,61,32,110,105,108,32,125]
def Zfd:List UInt8:=[102,117,110,99,32,109,97,105,110,40,41,32,123,32,120,32,58,61,32,49,59,32,120,32,58,61,32,50,32,125]
def Zgd:List UInt8:=[102,117,110,99,32,102,40,41,32,123,32,125]
def tkB(s:List UInt8):Bool:=((scanF s).1.all fun t=>!decide (t.kind=2) || (decide (t.text=[49]) || decide (t.text=[50])))&&(decide ((scanF s).1.length≤100000)&&decide (count (fileN (prsT (scanF s).1 s.length).1)≤1000000))
theorem ps6{s:List UInt8}(h:tkB s=true):PsOk s:=by
 unfold tkB at h;simp only [Afa,decide_eq_true_eq] at h;refine ⟨fun t ht hk=>?_,h.2.1,h.2.2⟩;have h:=Aia.1 h.1 t ht;rw [hk] at h;have h:t.text=[49]∨t.text=[50]:=by simpa using h
 rcases h with h|h <;> rw [h]
 exact ⟨fun c hc=>by rw [Apa.1 hc];decide,by simp,by simp⟩;exact ⟨fun c hc=>by rw [Apa.1 hc];decide,by simp,by simp⟩
theorem tkA:tkB smp6A=true:=by decide +kernel
theorem tkBB:tkB Zdd=true:=by decide +kernel
theorem tkC:tkB Zed=true:=by decide +kernel
theorem tkD:tkB Zfd=true:=by decide +kernel
theorem tkE:tkB Zgd=true:=by decide +kernel
def chk0(s:List UInt8):Bool:=decide ((parseF s).2.2=0)&&decide (count (parseF s).1≤250)
theorem c0A:chk0 smp6A=true:=by decide +kernel
theorem c0B:chk0 Zdd=true:=by decide +kernel
theorem c0C:chk0 Zed=true:=by decide +kernel
theorem c0D:chk0 Zfd=true:=by decide +kernel
theorem c0E:chk0 Zgd=true:=by decide +kernel
theorem rA:(refCheck (parseF smp6A).1).2.2=0:=by decide +kernel
theorem rB:(refCheck (parseF Zdd).1).2=(14,5):=by decide +kernel
theorem rC:(refCheck (parseF Zed).1).2=(19,7):=by decide +kernel
theorem rD:(refCheck (parseF Zfd).1).2=(22,6):=by decide +kernel
theorem rE:(refCheck (parseF Zgd).1).2=(0,5):=by decide +kernel
def useX(t:Nd):Bool:=(((decide (t.kind=27)&&decide (t.text=[120]))&&decide (t.ref=1))&&decide (t.num=0))&&decide (t.ty.kind=1)
def upS(l:List Nd):Int:=(l.map fun t=>bif useX t then t.up else 0).sum
theorem uA:upS (listN (refCheck (parseF smp6A).1).1)=2:=by decide +kernel
theorem Qcb{s:List UInt8}(h:chk0 s=true):(parseF s).2.2=0∧count (parseF s).1≤1000000:=by
 unfold chk0 at h;simp only [Afa,decide_eq_true_eq] at h;exact ⟨h.1,O⟩
theorem Utd{l:List Nd}{i:Nat}(h:i<l.length):upS (l.take (i+1))=upS (l.take i)+(bif useX l[i] then l[i].up else 0):=by
 unfold upS;rw [Aca h,Aaa,List.sum_append];simp
theorem rB1:(refCheck (parseF Zdd).1).2.1=14∧(refCheck (parseF Zdd).1).2.2=5:=by rw [rB];exact ⟨rfl,rfl⟩
theorem rC1:(refCheck (parseF Zed).1).2.1=19∧(refCheck (parseF Zed).1).2.2=7:=by rw [rC];exact ⟨rfl,rfl⟩
theorem rD1:(refCheck (parseF Zfd).1).2.1=22∧(refCheck (parseF Zfd).1).2.2=6:=by rw [rD];exact ⟨rfl,rfl⟩
theorem rE1:(refCheck (parseF Zgd).1).2.1=0∧(refCheck (parseF Zgd).1).2.2=5:=by rw [rE];exact ⟨rfl,rfl⟩
theorem cnA:count (refCheck (parseF smp6A).1).1≤1000:=by decide +kernel
theorem lnA:(listN (refCheck (parseF smp6A).1).1).length≤1000:=by decide +kernel
theorem upA0:((listN (refCheck (parseF smp6A).1).1).all fun t=>decide (0≤t.up)&&decide (t.up≤100))=true:=by decide +kernel
theorem Wgf:∀ {l:List Nd},(∀ t∈l,0≤t.up∧t.up≤100)→0≤upS l∧upS l≤100*(l.length:Int)
 | [],_=>⟨Int.le_refl _,Int.le_refl _⟩
 | t::l,h=>by
  have h1:=Wgf (l:=l) fun u hu=>h u (List.mem_cons_of_mem _ hu);have h2:=h t List.mem_cons_self;have e:upS (t::l)=(bif useX t then t.up else 0)+upS l:=by unfold upS;simp
  rw [e,List.length_cons];cases useX t;rw [cond_false];omega;rw [cond_true];omega
theorem Uhe(w:World)(hL:LaidW w.heap.size w):Ret PP 10 #[] w fun r w'=>r = .bool true∧G w w':=by
 obtain ⟨A,hA⟩:∃ A,A=(refCheck (parseF smp6A).1).1:=⟨_,rfl⟩;have hcA:count A≤1000:=by rw [hA];exact cnA
 have hlA:(listN A).length≤1000:=by rw [hA];exact lnA
 have hup:∀ t∈listN A,0≤t.up∧t.up≤100:=fun t ht=>by
  have:=Aia.1 upA0 t (by rw [← hA];exact ht);simpa using this
 have huA:upS (listN A)=2:=by rw [hA];exact uA
 have g:=G.refl w;refine Jj (m:=134) Tryz.func10 J J [] (Zn _) ?_;refine Zm (Zu (Xb J (Ze (kq (Zm (Zu (Wk J (Yd Yta Vt (aqc J aq0) J) (Vhb smp6A (ps6 tkA) (Qcb c0A).1 (Qcb c0A).2 _ ((hL.grow g).top)) ?_)))))));rintro v20 w20 ⟨⟨u20,rfl,p20,c20,rfl,k20⟩,g20⟩;refine ⟨fun _=>g20,?_⟩;have g:=g.trans g20;have k20:Kd w20 (fun k=>k<w20.heap.size) (refCheck (parseF smp6A).1).1.kids (.slice p20 (refCheck (parseF smp6A).1).1.kids.length c20):=Kd.mono k20 fun k _ h=>h;rw [rA,← hA];rw [← hA] at k20;refine Zx J (Wga J J (Wga J J (Wga J J (Xh J Zp J ?_))));intro b1 w1 N1;have l1:=N1.ge g;have nat1:=N1.at_;have nsz1:=N1.size;have gsz1:=g.size;have g:=g.trans N1.g;have k20:=k20.grow (N1.g);have E:=(Zna _).new N1;refine Yra Xa J J J E.g0 ?_;intro wS1 hgS1 _ BS;replace E:=E.s0 hgS1 BS;have g:=Yo g hgS1 O;have k20:=k20.keep hgS1 (fun k hk _ e=>by injection e with e;omega);refine Xb J (Xb J (Ze (kq (Zm (Zu (Wk J (Yd Yta Vt (aqc J aq0) J) (Vhb Zdd (ps6 tkBB) (Qcb c0B).1 (Qcb c0B).2 _ ((hL.grow g).top)) ?_))))));rintro v25 w25 ⟨⟨u25,rfl,p25,c25,rfl,_⟩,g25⟩;refine ⟨fun _=>g25,?_⟩;have g:=g.trans g25;replace E:=E.grow g25;have k20:=k20.grow (g25);have sz25:=g25.size;rw [rB1.1,rB1.2];refine Zx J (Wga J J (Wga J J (Wga J J (Xh J Zp J ?_))));intro b4 w4 N4;have l4:=N4.ge g;have nat4:=N4.at_;have nsz4:=N4.size;have gsz4:=g.size;have g:=g.trans N4.g;have k20:=k20.grow (N4.g);replace E:=E.new N4;refine Yra Xa J J J E.g0 ?_;intro wS2 hgS2 _ BS;replace E:=E.s0 hgS2 BS;have g:=Yo g hgS2 O;have k20:=k20.keep hgS2 (fun k hk _ e=>by injection e with e;omega);refine Xb J (Xb J (Ze (kq (Zm (Zu (Wk J (Yd Yta Vt (aqc J aq0) J) (Vhb Zed (ps6 tkC) (Qcb c0C).1 (Qcb c0C).2 _ ((hL.grow g).top)) ?_))))))
 rintro v30 w30 ⟨⟨u30,rfl,p30,c30,rfl,_⟩,g30⟩;refine ⟨fun _=>g30,?_⟩;have g:=g.trans g30;replace E:=E.grow g30;have k20:=k20.grow (g30);have sz30:=g30.size;rw [rC1.1,rC1.2];refine Zx J (Wga J J (Wga J J (Wga J J (Xh J Zp J ?_))));intro b7 w7 N7;have l7:=N7.ge g;have nat7:=N7.at_;have nsz7:=N7.size;have gsz7:=g.size;have g:=g.trans N7.g;have k20:=k20.grow (N7.g);replace E:=E.new N7;refine Yra Xa J J J E.g0 ?_;intro wS3 hgS3 _ BS;replace E:=E.s0 hgS3 BS;have g:=Yo g hgS3 O;have k20:=k20.keep hgS3 (fun k hk _ e=>by injection e with e;omega);refine Xb J (Xb J (Ze (kq (Zm (Zu (Wk J (Yd Yta Vt (aqc J aq0) J) (Vhb Zfd (ps6 tkD) (Qcb c0D).1 (Qcb c0D).2 _ ((hL.grow g).top)) ?_))))));rintro v35 w35 ⟨⟨u35,rfl,p35,c35,rfl,_⟩,g35⟩;refine ⟨fun _=>g35,?_⟩;have g:=g.trans g35;replace E:=E.grow g35;have k20:=k20.grow (g35);have sz35:=g35.size;rw [rD1.1,rD1.2];refine Zx J (Wga J J (Wga J J (Wga J J (Xh J Zp J ?_))));intro b10 w10 N10;have l10:=N10.ge g;have nat10:=N10.at_;have nsz10:=N10.size;have gsz10:=g.size;have g:=g.trans N10.g;have k20:=k20.grow (N10.g);replace E:=E.new N10;refine Yra Xa J J J E.g0 ?_;intro wS4 hgS4 _ BS;replace E:=E.s0 hgS4 BS;have g:=Yo g hgS4 O;have k20:=k20.keep hgS4 (fun k hk _ e=>by injection e with e;omega);refine Xb J (Xb J (Ze (kq (Zm (Zu (Wk J (Yd Yta Vt (aqc J aq0) J) (Vhb Zgd (ps6 tkE) (Qcb c0E).1 (Qcb c0E).2 _ ((hL.grow g).top)) ?_))))));rintro v40 w40 ⟨⟨u40,rfl,p40,c40,rfl,_⟩,g40⟩;refine ⟨fun _=>g40,?_⟩;have g:=g.trans g40;replace E:=E.grow g40;have k20:=k20.grow (g40);have sz40:=g40.size;rw [rE1.1,rE1.2];refine Zx J (Wga J J (Wga J J (Wga J J (Xh J Zp J ?_))));intro b13 w13 N13;have l13:=N13.ge g;have nat13:=N13.at_
 have nsz13:=N13.size;have gsz13:=g.size;have g:=g.trans N13.g;have k20:=k20.grow (N13.g);replace E:=E.new N13;refine Yra Xa J J J E.g0 ?_;intro wS5 hgS5 _ BS;replace E:=E.s0 hgS5 BS;have g:=Yo g hgS5 O;have k20:=k20.keep hgS5 (fun k hk _ e=>by injection e with e;omega);refine Xb J (Xb J (Ze (kq (Zm (Zm (Zu (Zx J (Vff J J (Zx J (Zv J J J (fun _=>Zl (Zc J)) (Zv J J J (fun _=>Vta (Yc J id) Xm) (Zr J (fun _=>Wh (Zc J) (Yc J id)) (Zx J (Zv J J J (fun _=>Zl (Zc J)) (Zv J J J (fun _=>Vta (Yc J id) Xm) (Zr J (fun _=>Wh (Zc J) (Yc J id)) (?_)))))))))))))))));refine Zx J (Zv J J J (fun _=>Zl (Zc J)) (Zv J J J (fun _=>Vta (Yc J id) Xm) (Zr J (fun _=>Wh (Zc J) (Yc J id)) (Zx J (Zv J J J (fun _=>Zl (Zc J)) (Zv J J J (fun _=>Vta (Yc J id) Xm) (Zr J (fun _=>Wh (Zc J) (Yc J id)) (Zx J (Zv J J J (fun _=>Zl (Zc J)) (Zv J J J (fun _=>Vta (Yc J id) Xm) (Zr J (fun _=>Wh (Zc J) (Yc J id)) (Zx J (Zv J J J (fun _=>Zl (Zc J)) (Zv J J J (fun _=>Vta (Yc J id) Xm) (Zr J (fun _=>Wh (Zc J) (Yc J id)) (?_))))))))))))))));refine Zx J (Zv J J J (fun _=>Zl (Zc J)) (Zv J J J (fun _=>Vta (Yc J id) Xm) (Zr J (fun _=>Wh (Zc J) (Yc J id)) (Zx J (Zv J J J (fun _=>Zl (Zc J)) (Zv J J J (fun _=>Vta (Yc J id) Xm) (Zr J (fun _=>Wh (Zc J) (Yc J id)) (Wn [(0,_,_),(1,_,_),(77,_,_)] (Za J (Za J (Za J (Zn _)))) (Ze (kq (Qn J (fun h1=>?_) (fun h1=>?_))))))))))))
 ·exact absurd h1 Od
  done
 (try simp only [bsimp] at h1);refine Ym (kq (Zm (Zu (Vw Zg J J E.g4.row (Wk J (Yd Xlc Vt (aqc J aq0) J) (Qwe A _ (fun k=>k<w20.heap.size) _ k20 O) ?_)))));rintro v79 w79 ⟨hk79,g79⟩;refine ⟨fun _=>g79,?_⟩;have g:=g.trans g79;replace E:=E.grow g79;obtain ⟨p79,c79,rfl,_⟩:=id hk79;refine Xb J (Ze (kq (Zm (Zu (Xb J (Ze (kq (Zm (Zm (Zu (Xb J (Ze (kq (Yz (Jc (fun (i:Nat) u1=>(i≤(listN A).length)∧G w79 u1) [(0,True,_),(16,True,_)] (fun (i:Nat)=>[(17,True,.int .i64 (upS ((listN A).take i))),(18,True,.int .i64 i)]) (fun (i:Nat)=>(listN A).length-i) (0) ⟨Ala _,G.refl _⟩ (Za J (Za J (Za J (Za J (Zn _))))) ?_)))))))))))))));rintro i u1 ⟨hI1,gl1⟩;have g:=g.trans gl1;replace E:=E.grow gl1;have hk79:=hk79.grow gl1;refine Zm (Zm (Zu (Zx J (Zx J (Wha Zd J (Znb J J (Ze (kq (Qn J (fun h2=>?_) (fun h2=>?_))))))))))
 ·replace h2:i<(listN A).length:=by simp only [decide_eq_true_eq] at h2;omega
  obtain ⟨e0,p1,c1,hcell,_⟩:=Yy (t:=lT (listN A)) hk79 (i:=i) h2;have eL:Zb (lT (listN A)) i=(listN A)[i]:=Xt (t:=lT (listN A)) h2;rw [eL] at hcell;have hb1:=Wgf (l:=(listN A).take i) fun t ht=>hup t (List.mem_of_mem_take ht);have hb2:=hup _ (Aga h2);have hb3:((listN A).take i).length≤1000:=by rw [List.length_take];omega
  refine Ym (kq (Zm (Yz (Zm (Zu (Zx J (Zx J (Ysa Zd J J O e0 (Xg Wd J (Xp Yi J (hcell.one (i:=0) J) (Jsa J J (Zx J (Zv J J J (fun _=>Zl (Zc J)) (Zv J J J (fun _=>Zl (Zc J)) (Zv J J J (fun _=>Xz Zd (Yc J id) (Yc J id) (fun _=>O) (fun _=>e0)) (Zv J J J (fun _=>Zj Wx (Yc J id)) (?_)))))))))))))))));refine Ww J J J (Zw Xc (Yc J id) (fun _=>hcell.one (i:=1) J)) (Zv J J J (fun _=>Wqc (Yc J id) Xm) (Zr J (fun _=>Wu (Zc J) (Yc J id)) (Zx J (Zv J J J (fun _=>Zl (Zc J)) (Zv J J J (fun _=>Zl (Zc J)) (Zv J J J (fun _=>Xz Zd (Yc J id) (Yc J id) (fun _=>O) (fun _=>e0)) (Zv J J J (fun _=>Zj Yha (Yc J id)) (Ww J J J (Zw Yi (Yc J id) (fun _=>hcell.one (i:=7) J)) (Zv J J J (fun _=>Jva (Yc J id) Xm) (Zr J (fun _=>Wu (Zc J) (Yc J id)) (Zx J (Zv J J J (fun _=>Zl (Zc J)) (Zv J J J (fun _=>Zl (Zc J)) (Zv J J J (fun _=>Xz Zd (Yc J id) (Yc J id) (fun _=>O) (fun _=>e0)) (Zv J J J (fun _=>Zj Qq (Yc J id)) (?_))))))))))))))));refine Ww J J J (Zw Yi (Yc J id) (fun _=>hcell.one (i:=2) J)) (Zv J J J (fun _=>Jva (Yc J id) Xm) (Zr J (fun _=>Wu (Zc J) (Yc J id)) (Zx J (Zv J J J (fun _=>Zl (Zc J)) (Zv J J J (fun _=>Zl (Zc J)) (Zv J J J (fun _=>Xz Zd (Yc J id) (Yc J id) (fun _=>O) (fun _=>e0)) (Zv J J J (fun _=>Zj Yp (Yc J id)) (Zv J J J (fun _=>Zj Uqb (Yc J id)) (Ww J J J (Zw Yi (Yc J id) (fun _=>hcell.one (i:=5) J)) (Zv J J J (fun _=>Jva (Yc J id) Xm) (Zr J (fun _=>Wu (Zc J) (Yc J id)) (Ze (kq (Qn J (fun h3=>?_) (fun h3=>?_)))))))))))))))
  ·have hu:useX (listN A)[i]=true:=h3
   refine Zu (Zx J (Zx J (Zx J (Ysa Zd J J O e0 (Xg Zjb J (Xp Yi J (hcell.one (i:=8) J) (Vua J J O (Xb J (Ze (kq (Zu (Zx J (Vua J J O (Xb J (Wn [(17,_,_),(18,_,_),(0,_,_),(16,_,_)] (Za J (Za J (Za J (Za J (Zn _))))) (Ze (fun a ha=>?_)))))))))))))))));exact ⟨i+1,by rw [Utd h2,hu,cond_true];exact ha,⟨h2,gl1⟩,O⟩
  have hu:useX (listN A)[i]=false:=h3;refine Ym (kq (Zu (Zx J (Vua J J O (Xb J (Wn [(17,_,_),(18,_,_),(0,_,_),(16,_,_)] (Za J (Za J (Za J (Za J (Zn _))))) (Ze (fun a ha=>?_))))))));exact ⟨i+1,by rw [Utd h2,hu,cond_false,Int.add_zero];exact ha,⟨h2,gl1⟩,O⟩
 replace h2:i=(listN A).length:=by simp only [decide_eq_false_iff_not] at h2;omega
 subst h2;refine Jr J (kq (Zm (Zu (Zx J (Jsa J J (Xb J (Ze (kq (Xv (Qe J J ?_))))))))));rw [Ada,huA];exact ⟨rfl,g⟩
theorem Uh(t:Nd):(plainT t).kind=t.kind:=by rw [Vo];rfl
theorem Jf(t:Nd):(plainT t).text=t.text:=by rw [Vo];rfl
theorem Jg(t:Nd):(plainT t).pos=t.pos:=by rw [Vo];rfl
theorem Whf:plainT nd0=nd0:=by rw [Vo];rfl
theorem Xne(t:Nd):numS (plainT t)=numS t:=by
 have hc:countsB (plainT t)=countsB t:=by unfold countsB;rw [Uh]
 unfold numS;rw [hc];cases h:countsB t;rfl;show (plainT t).num=t.num;rw [Vo];show numS t=t.num;unfold numS;rw [h];rfl
theorem Wif{α β:Type}(f:α→β)(l:List α)(i:Nat)(d:α)(e:β)(h:f d=e):(l.map f).getD i e=f (l.getD i d):=by
 rw [Aja,List.getElem?_map,Aja]
 cases l[i]? with
 | none=>exact h.symm
 | some k=>rfl
theorem Wv(t:Nd)(i:Nat):Zb (plainT t) i=plainT (Zb t i):=by
 unfold Zb;rw [Qj];exact Wif plainT t.kids i nd0 nd0 Whf
theorem Qgc(t:Nd):clnT (plainT t)=clnT t:=by unfold clnT;rw [Uh,Jf,Xne,Jg]
theorem Xpa(t:Nd)(ks:List Nd)(y:Ty):annT (plainT t) ks y=annT t ks y:=by unfold annT;rw [Uh,Jf,Xne,Jg]
theorem Wjf(t:Nd)(ks:List Nd)(k:Nat):dclT (plainT t) ks k=dclT t ks k:=by unfold dclT;rw [Uh,Jf,Jg]
theorem Zag(t:Nd):Jwa (plainT t)=Jwa t:=by unfold Jwa;rw [Jk]
theorem Xsc(t:Nd):ofF (plainT t)=ofF t:=by unfold ofF;rw [Zag,Uh,Jf]
theorem Qhc(kd:Int)(s:List UInt8):∀ (l:List Nd) (k:Nat),findK kd s (l.map plainT) k=(plainT (findK kd s l k).1,(findK kd s l k).2)
 | [],k=>by show (nd0,(-1:Int))=(plainT nd0,-1);rw [Whf]
 | d::l,k=>by
  rw [Ama,findK,findK,Uh,Jf,Qhc kd s l k,Qhc kd s l (k+1)];cases decide (d.kind=kd);rfl;cases decide (d.text=s) <;> rfl
theorem Vzb(F:Nd)(kd:Int)(s:List UInt8):findD (plainT F) kd s=(plainT (findD F kd s).1,(findD F kd s).2):=by unfold findD;rw [Qj,Qhc]
theorem Zbg(t:Nd):kid0 (plainT t)=plainT (kid0 t):=Wv t 0
theorem Wpg(f:Nd):fldOf (plainT f)=fldOf f:=by unfold fldOf;rw [Uh,Jk,Zbg,Xsc,Jf]
theorem Xoe{α β γ:Type}(f:β→Option γ)(g:α→β):∀ l:List α,mapO f (l.map g)=mapO (fun x=>f (g x)) l
 | []=>rfl
 | x::l=>by rw [Ama,mapO,mapO,Xoe f g l]
theorem Wkf(s:List UInt8)(t:Nd):isStr s (plainT t)=isStr s t:=by unfold isStr;rw [Uh,Jf]
theorem Uie(F:Nd)(s:List UInt8):Qs (plainT F) s=Qs F s:=by
 unfold Qs;rw [Qj,List.find?_map,show (isStr s ∘ plainT)=isStr s from funext fun t=>Wkf s t]
 cases t:F.kids.find? (isStr s) with
 | none=>rfl
 | some d =>
  show (match mapO fldOf (plainT d).kids with|none=>_|some l=>_)=(match mapO fldOf d.kids with|none=>_|some l=>_);rw [Qj,Xoe,show (fun x=>fldOf (plainT x))=fldOf from funext Wpg]
theorem Qyb(F n:Nd)(S:CSt):pointerS (plainT F) (plainT n) S=pointerS F n S:=by unfold pointerS;rw [Uh,Jf,Jg,Vzb]
theorem Qic(F n:Nd)(S:CSt):localS (plainT F) (plainT n) S=localS F n S:=by unfold localS;rw [Xsc,Jg,Qyb]
theorem Wlf(d:Nd):fncTy (plainT d)=fncTy d:=by unfold fncTy;rw [Wv,Wv,Jk,Uh]
theorem Xsd(F n:Nd)(S:CSt):lookR (plainT F) S (plainT n)=lookR F S n:=by unfold lookR;rw [Uh,Jf,Jg,Vzb,Vzb,Wv,Xsc,Wlf,Qgc]
section
variable (F t:Nd) (x:Nat→Ck)
theorem Zge:memR (plainT F) (plainT t) x=memR F t x:=by funext S;unfold memR;simp only [Uie,Jf,Xpa,Jg]
theorem Wqg:rcvR (plainT F) (plainT t) x=rcvR F t x:=by funext S;unfold rcvR;rw [Uh,Xsd,Zge]
theorem Wmf(ps:List Ty)(S:CSt):∀ i,argA (plainT t) x ps S i=argA t x ps S i
 | 0=>rfl
 | i+1=>by rw [argA,argA,Wmf ps S i,Wv,Jg]
theorem Zcg:callR (plainT t) x=callR t x:=by funext S;unfold callR;simp only [Jk,Jg,Wmf,Xpa]
theorem Wrg:litR (plainT t) x=litR t x:=by funext S;unfold litR;simp only [Xpa]
theorem pl_un:unTy (plainT t)=unTy t:=by unfold unTy;rw [Jf]
theorem pl_op:opR (plainT t) x=opR t x:=by funext S;unfold opR;simp only [Uh,Jf,Jg,Xpa,Wv,pl_un]
theorem Yfg:exR (plainT F) (plainT t) x=exR F t x:=by funext S;unfold exR;simp only [Uh,Jf,Jg,Xpa,Wrg,Zcg,Xsd,Zge,Vzb,pl_op]
theorem Zdg:rcvX (plainT t) x=rcvX t x:=by funext S;unfold rcvX;rw [Wv,Uh]
theorem Wsg(d:Nd):(Zb (plainT d) 0).kids.map (fun p=>(ofF (Zb p 0)).1)=(Zb d 0).kids.map (fun p=>(ofF (Zb p 0)).1):=by
 rw [Wv,Qj,Aea];exact Aha fun p _=>by show (ofF (Zb (plainT p) 0)).1=_;rw [Wv,Xsc]
theorem Wtg:calR (plainT F) (plainT t) x=calR F t x:=by
 funext S;unfold calR;simp only [Uh,Jf,Jg,Xpa,Zdg,Xsd,Vzb,Yfg,Wsg];rw [Wv,Xsc]
theorem Wnf:stsR (plainT t) x=stsR t x:=by funext S;unfold stsR;rw [Jk,Xpa]
theorem Wof:blkR (plainT t) x=blkR t x:=by funext S;unfold blkR;rw [Wnf]
theorem Xpe(k:Nd)(y:Ck):condR (plainT k) y=condR k y:=by funext S;unfold condR;rw [Uh,Qgc,Jg]
theorem Ygg:ifR (plainT t) x=ifR t x:=by funext S;unfold ifR;simp only [Wv,Xpe,Uh,Qgc,Xpa]
theorem Wug:asgR (plainT t) x=asgR t x:=by funext S;unfold asgR;simp only [Wv,Jg,Xpa]
theorem Wvg:casR (plainT t) x=casR t x:=by funext f S;unfold casR;simp only [Wv,Uh,Qgc,Jg,Xpa]
theorem Xqe(S:CSt):∀ i,selA (plainT t) x S i=selA t x S i
 | 0=>rfl
 | i+1=>by rw [selA,selA,Xqe S i,Wv,Wv,Uh]
theorem Wwg:selR (plainT t) x=selR t x:=by funext S;unfold selR;rw [Jk,Xqe,Xpa]
theorem Wxg:varR (plainT F) (plainT t) x=varR F t x:=by funext S;unfold varR;simp only [Wv,Uh,Qgc,Qic,Xsc,Jg,Wba,Wjf,Jf]
theorem Wyg:defR (plainT t) x=defR t x:=by funext S;unfold defR;simp only [Wv,Jg,Wjf,Jf]
theorem Wzg:forR (plainT t) x=forR t x:=by funext S;unfold forR;simp only [Wv,Xpe,Xpa]
theorem Vag:retR (plainT t) x=retR t x:=by funext S;unfold retR;simp only [Jk,Jg,Wv,Xpa]
theorem pl_st:stR (plainT F) (plainT t) x=stR F t x:=by
 funext S;unfold stR;simp only [Uh,Wof,Ygg,Wug,Wwg,Wxg,Wyg,Wzg,Vag,Wv,Jg,Xpa]
theorem Vbg:ckF (plainT F) (plainT t) x=ckF F t x:=by unfold ckF;rw [Yfg,Zge,Wqg,Wtg,pl_st,Wof,Ygg,Wnf,Wvg]
end
theorem Vcg(F:Nd):∀ t,ckT (plainT F) (plainT t)=ckT F t:=by
 refine Nd.ind fun t ih=>?_;rw [Yla,Yla F]
 have e:ckX (plainT F) (plainT t)=ckX F t:=by
  funext i;unfold ckX;rw [Qj,Aea];rw [Aha (f:=ckT (plainT F) ∘ plainT) (g:=ckT F) fun k hk=>ih k hk]
 rw [e,Vbg]
theorem Zeg:∀ t,endT (plainT t)=endT t:=by
 refine Nd.ind fun t ih=>?_;rw [Jxa,Jxa t,Qj,Aea,Aha (f:=endT ∘ plainT) (g:=endT) fun k hk=>ih k hk];unfold endP;simp only [Uh,Wv]
theorem Wpf(l:List Nd):endsL (l.map plainT)=endsL l:=by unfold endsL;rw [Aea,show (endT ∘ plainT)=endT from funext Zeg]
theorem Xtd(F p:Nd)(S:CSt):∀ i,parA (plainT F) (plainT p) S i=parA F p S i
 | 0=>rfl
 | i+1=>by
  have e:∀ l:List Nd,(l.map plainT).map plainT=l.map plainT:=fun l=>by rw [Aea];exact Aha fun k _=>Wba k
  rw [parA,parA,Xtd F p S i];simp only [Wv,Xsc,Qic,Jf,Jg,Uh,Qj,e]
theorem Vdg(F n:Nd)(S:CSt):funR (plainT F) (plainT n) S=funR F n S:=by
 have h1:funS1 (plainT F) (plainT n) S=funS1 F n S:=by unfold funS1;rw [Wv,Jk,Xtd]
 have h2:funS2 (plainT F) (plainT n) S=funS2 F n S:=by unfold funS2;rw [Wv,Uh,h1,Qic,Xsc]
 unfold funR;rw [h2];simp only [Wv,Jk,Xtd,Vcg,Xpa,Wba,Uh,Jg];rw [Qj (Zb n 2),Wpf]
theorem Wqf(n:Nd)(i:Nat):dupAt (plainT n) i=dupAt n i:=by
 unfold dupAt;rw [Qj,← List.map_take,List.any_map,Wv,Jf];congr 1;funext k;show decide ((plainT k).text=_)=_;rw [Jf]
theorem Zhe(n:Nd)(S:CSt):∀ i,namA (plainT n) S i=namA n S i
 | 0=>rfl
 | i+1=>by rw [namA,namA,Zhe n S i,Wqf,Wv,Jg]
theorem Wrf(F n:Nd)(S:CSt):∀ i,strA (plainT F) (plainT n) S i=strA F n S i
 | 0=>rfl
 | i+1=>by rw [strA,strA,Wrf F n S i,Wqf,Wv,Wv,Jg,Qyb]
theorem Zfg(F n:Nd)(S:CSt):dclR (plainT F) (plainT n) S=dclR F n S:=by unfold dclR;rw [Uh,Wba,Jk,Wrf,Wv,Qyb,Vdg]
theorem Xud(F:Nd)(S:CSt):∀ i,dclA (plainT F) S i=dclA F S i
 | 0=>rfl
 | i+1=>by rw [dclA,dclA,Xud F S i,Wv,Zfg]
theorem Zgg(F:Nd)(S:CSt):mainS (plainT F) S=mainS F S:=by
 unfold mainS;simp only [Vzb,Wv,Jk,Uh,Jg]
theorem Zhg(F:Nd):refS (plainT F)=refS F:=by unfold refS;rw [Jk,Zhe,Xud,Zgg]
theorem Zig(F:Nd):refA (plainT F)=refA F:=by unfold refA;rw [Jk,Zhe,Xud,Xpa]
theorem Wsf(F:Nd):validB (plainT F)=validB F:=by rw [← Vgd,Vhd,Vgd]
theorem Zhd(F:Nd):refCheck (plainT F)=refCheck F:=by unfold refCheck;rw [Wsf,Zhg,Zig]
def Al(x t:Nd):Prop:=plainT x=plainT t
structure Pl (t:Nd) (c:Ck):Prop where
  ex:exprB t=true→∀ S,Al (c.ex S).1 t
  mem:t.kind=28→exprB t=true→∀ S,Al (c.mem S).1.1 t
  rcv:t.kind≠28→exprB t=true→∀ S,(c.rcv S).2=true→Al (c.rcv S).1 t
  cal:exprB t=true→∀ S,Al (c.cal S).1.1 t
  st:stmtB t=true→∀ S,Al (c.st S).1 t
  blk:blockB t=true→∀ S,Al (c.blk S).1 t
  ifs:ifB t=true→∀ S,Al (c.ifs S).1 t
  sts:blockB t=true→∀ S,Al (c.sts S).1 t
  cas:Xhb t=true→∀ f S,Al (c.cas f S).1 t
theorem Zlb{t:Nd}{ks:List Nd}{y:Ty}(h:ks.map plainT=t.kids.map plainT):Al (annT t ks y) t:=by
 unfold Al
 have hn:numS (annT t ks y)=numS t:=by
  unfold numS;rw [show countsB (annT t ks y)=countsB t from rfl];cases h:countsB t;rfl;show (bif countsB t then t.num else 0)=_;rw [h]
 rw [Vo,Vo t,hn];show Nd.mk t.kind t.text (numS t) t.pos (ks.map plainT) ty0 0 0=_;rw [h]
theorem Qjc{t:Nd}(h:t.kids=[]):Al (clnT t) t:=Zlb (ks:=[]) (y:=ty0) (by rw [h])
theorem Uud{t:Nd}{ks:List Nd}{y:Ty}{n r u:Int}(hc:countsB t=false)(h:ks.map plainT=t.kids.map plainT):Al (.mk t.kind t.text n t.pos ks y r u) t:=by
 unfold Al;have e1:numS (.mk t.kind t.text n t.pos ks y r u)=0:=by unfold numS;rw [show countsB (.mk t.kind t.text n t.pos ks y r u)=countsB t from rfl,hc];rfl
 have e2:numS t=0:=by unfold numS;rw [hc];rfl
 rw [Vo,Vo t,e1,e2];show Nd.mk t.kind t.text 0 t.pos (ks.map plainT) ty0 0 0=_;rw [h]
theorem Xvd{t:Nd}{k:Int}(h:t.kind=k)(h1:k≠24)(h2:k≠25):countsB t=false:=by unfold countsB;rw [Vwg O,Vwg O];rfl
theorem Xre{t:Nd}(h:t.kids.length=2):t.kids=[Zb t 0,Zb t 1]:=by
 unfold Zb
 match t.kids,h with
 | [a,b],_=>rfl
theorem Uje{t:Nd}(h:t.kids.length=3):t.kids=[Zb t 0,Zb t 1,Zb t 2]:=by
 unfold Zb
 match t.kids,h with
 | [a,b,c],_=>rfl
theorem Yhg{t:Nd}(h:t.kids.length=1):t.kids=[Zb t 0]:=by
 unfold Zb
 match t.kids,h with
 | [a],_=>rfl
theorem Xhc{t a:Nd}{y:Ty}(hl:t.kids.length=1)(h:Al a (Zb t 0)):Al (annT t [a] y) t:=Zlb (by rw [Yhg hl];show [plainT a]=[plainT _];rw [h])
theorem Uke{t a b:Nd}{y:Ty}(hl:t.kids.length=2)(h:Al a (Zb t 0))(k:Al b (Zb t 1)):Al (annT t [a,b] y) t:=Zlb (by rw [Xre hl];show [plainT a,plainT b]=[plainT _,plainT _];rw [h,k])
theorem al_3{t a b c:Nd}{y:Ty}(hl:t.kids.length=3)(h:Al a (Zb t 0))(k:Al b (Zb t 1))(j:Al c (Zb t 2)):Al (annT t [a,b,c] y) t:=Zlb (by rw [Uje hl];show [plainT a,plainT b,plainT c]=[plainT _,plainT _,plainT _];rw [h,k,j])
theorem Wtf{t:Nd}{y:Ty}(hl:t.kids=[]):Al (annT t [] y) t:=Zlb (by rw [hl])
theorem Xfb{t:Nd}(hx:exprB t=true)(hk:t.kind=24∨t.kind=25∨t.kind=26∨t.kind=27∨t.kind=34):t.kids=[]:=by
 rw [← Jo] at hx;unfold Xga at hx
 have fin:∀ q:Bool,(q&&lenK t 0)=true→t.kids=[]:=fun q h=>by
  have hz:=(Aba.1 h).2;unfold lenK at hz;simpa using hz
 rcases hk with h|h|h|h|h <;> rw [h] at hx
 have hx:((plainB t&&lenK t 0)&&decide (0≤t.num))=true:=hx;exact fin _ (Aba.1 hx).1;have hx:((plainB t&&lenK t 0)&&(decide (t.num=0) || decide (t.num=1)))=true:=hx;exact fin _ (Aba.1 hx).1;exact fin _ hx;exact fin _ hx;exact fin _ hx
section
variable {F t:Nd} {x:Nat→Ck} {S:CSt}
theorem Xwd(ht:t.kind=27)(hl:t.kids=[]):Al (lookR F S t).1 t:=by
 have hc:=Xvd ht Od Od;have e:([]:List Nd).map plainT=t.kids.map plainT:=by rw [hl]
 unfold lookR;split;exact Uud hc e;cases decide (0≤(findD F 6 t.text).2);cases decide (0≤(findD F 4 t.text).2);exact Qjc hl;exact Uud hc e;exact Uud hc e
theorem Wuf(X:∀ i,Pl (Zb t i) (x i))(ht:t.kind=28)(hx:exprB t=true):Al (memR F t x S).1.1 t:=by
 obtain ⟨_,hl,h0⟩:=sh28 ht hx;have a:=(X 0).ex h0 S;unfold memR;dsimp only;cases decide (((x 0).ex S).1.ty.kind=4);exact Xhc hl a;simp only [cond_true];split <;> exact Xhc hl a
theorem Veg(ht:t.kind≠28)(hx:exprB t=true)(hr:(rcvR F t x S).2=true):Al (rcvR F t x S).1 t:=by
 unfold rcvR at hr ⊢;cases h1:decide (t.kind=27);rw [h1,Vwg ht] at hr;cases hr;have h:=of_decide_eq_true h1;exact Xwd h (Xfb hx O)
theorem Wvf(X:∀ i,Pl (Zb t i) (x i))(hk:t.kids.all exprB=true)(ps:List Ty)(S:CSt):∀ i,i+1≤t.kids.length→(argA t x ps S i).1.map plainT=((t.kids.take (i+1)).drop 1).map plainT
 | 0,_=>by rw [List.drop_take];rfl
 | i+1,hi=>by
  show ((argA t x ps S i).1++[((x (i+1)).ex (argA t x ps S i).2).1]).map plainT=_;rw [Aaa,Wvf X hk ps S i O,Aca (show i+1<t.kids.length by omega),List.drop_append_of_le_length (by rw [List.length_take];omega),Aaa];have a:=(X (i+1)).ex (Ur hk O) (argA t x ps S i).2;rw [← Xt (show i+1<t.kids.length by omega)];show _++[plainT _]=_++[plainT _];rw [a]
theorem Zjg(X:∀ i,Pl (Zb t i) (x i))(ht:t.kind=30)(hx:exprB t=true):Al (callR t x S).1 t:=by
 obtain ⟨h1,h2⟩:=sh30 ht hx;have a:=(X 0).cal (Ur h2 h1) S;refine Zlb ?_;rw [Ama,Wvf X h2 _ _ _ O,a,Nat.sub_add_cancel h1,Ada]
 obtain ⟨k,ks,e⟩:∃ k ks,t.kids=k::ks:=by
  match h:t.kids,h1 with
  | k::ks,_=>exact ⟨k,ks,rfl⟩
 unfold Zb;rw [e];rfl
theorem Vfg(X:∀ i,Pl (Zb t i) (x i))(ht:t.kind=38)(hx:exprB t=true):Al (litR t x S).1 t:=Xhc (sh38 ht hx).1 ((X 0).blk (sh38 ht hx).2 _)
theorem al_op(X:∀ i,Pl (Zb t i) (x i))(hx:exprB t=true)(hk:t.kind∈([29,31,32,33,35,36,37]:List Int)):Al (opR t x S).1 t:=by
 unfold opR;dsimp only [wantS];cases h29:decide (t.kind=29)
 case true =>
  obtain ⟨hl,h0,h1⟩:=sh29 (of_decide_eq_true h29) hx;exact Uke hl ((X 0).ex h0 _) ((X 1).ex h1 _)
 cases h31:decide (t.kind=31)
 case true =>
  obtain ⟨_,hl,h0⟩:=sh31 (of_decide_eq_true h31) hx;exact Xhc hl ((X 0).ex h0 _)
 cases h32:decide (t.kind=32)
 case true =>
  obtain ⟨_,hl,h0,h1⟩:=sh32 (of_decide_eq_true h32) hx;exact Uke hl ((X 0).ex h0 _) ((X 1).ex h1 _)
 cases h33:decide (t.kind=33)
 case true =>
  obtain ⟨hl,h0⟩:=sh33 (of_decide_eq_true h33) hx;exact Xhc hl ((X 0).ex h0 _)
 cases h37:decide (t.kind=37)
 case true =>
  obtain ⟨hl,h0⟩:=sh37 (of_decide_eq_true h37) hx;exact Xhc hl ((X 0).ex h0 _)
 cases h35:decide (t.kind=35)
 case true =>
  obtain ⟨hl,h0⟩:=sh35 (of_decide_eq_true h35) hx;exact Xhc hl ((X 0).ex h0 _)
 simp only [decide_eq_false_iff_not] at h29 h31 h32 h33 h37 h35;simp only [Ana,Aoa,or_false] at hk;have h36:t.kind=36:=by omega
 obtain ⟨hl,h0⟩:=sh36 h36 hx;rw [Vxg h36];exact Xhc hl ((X 0).ex h0 _)
theorem Zkg{t:Nd}(hx:exprB t=true)(h24:t.kind≠24)(h25:t.kind≠25)(h26:t.kind≠26)(h38:t.kind≠38)(h30:t.kind≠30)(h27:t.kind≠27)(h28:t.kind≠28)(h34:t.kind≠34):t.kind∈([29,31,32,33,35,36,37]:List Int):=by
 have hx:=(Aba.1 hx).1;unfold expK at hx;rw [Wnb] at hx;simp only [Ana,Aoa,or_false] at hx ⊢;omega
theorem Yig(X:∀ i,Pl (Zb t i) (x i))(hx:exprB t=true):Al (exR F t x S).1 t:=by
 unfold exR;cases h24:decide (t.kind=24);case true=>exact Wtf (Xfb hx (.inl (of_decide_eq_true h24)))
 cases h25:decide (t.kind=25);case true=>exact Wtf (Xfb hx (.inr (.inl (of_decide_eq_true h25))))
 cases h26:decide (t.kind=26);case true=>exact Wtf (Xfb hx (.inr (.inr (.inl (of_decide_eq_true h26)))))
 cases h38:decide (t.kind=38);case true=>exact Vfg X (of_decide_eq_true h38) hx
 cases h30:decide (t.kind=30);case true=>exact Zjg X (of_decide_eq_true h30) hx
 cases h27:decide (t.kind=27);case true=>exact Xwd (of_decide_eq_true h27) (Xfb hx (.inr (.inr (.inr (.inl (of_decide_eq_true h27))))))
 cases h28:decide (t.kind=28);case true=>exact Wuf X (of_decide_eq_true h28) hx
 cases h34:decide (t.kind=34);case true=>exact Wtf (Xfb hx (.inr (.inr (.inr (.inr (of_decide_eq_true h34))))))
 simp only [decide_eq_false_iff_not] at h24 h25 h26 h38 h30 h27 h28 h34;exact al_op X hx (Zkg hx h24 h25 h26 h38 h30 h27 h28 h34)
theorem Vgg(X:∀ i,Pl (Zb t i) (x i))(hx:exprB t=true):Al (calR F t x S).1.1 t:=by
 unfold calR;dsimp only;cases h1:(decide (t.kind=28)&&((x 0).rcv S).2);simp only [cond_false];cases h2:(decide (t.kind=27)&&((lookR F S t).2&&decide ((lookR F S t).1.ref=3)));exact Yig X hx;have h27:=of_decide_eq_true (Aba.1 h2).1;exact Xwd h27 (Xfb hx (.inr (.inr (.inr (.inl h27)))));obtain ⟨h1,h2⟩:=Aba.1 h1;have ht:=of_decide_eq_true h1;obtain ⟨_,hl,h0⟩:=sh28 ht hx
 have a:Al (rcvX t x S).1 (Zb t 0):=by
  unfold rcvX;cases h3:decide ((Zb t 0).kind=28);exact (X 0).rcv (of_decide_eq_false h3) h0 S h2;exact (X 0).mem (of_decide_eq_true h3) h0 S
 exact Xhc hl a
theorem Wwf(X:∀ i,Pl (Zb t i) (x i))(hb:t.kids.all stmtB=true)(S:CSt):∀ i,i≤t.kids.length→(stA x S i).1.map plainT=(t.kids.take i).map plainT
 | 0,_=>rfl
 | i+1,hi=>by
  show ((stA x S i).1++[((x i).st (stA x S i).2).1]).map plainT=_;rw [Aaa,Wwf X hb S i O,Aca (show i<t.kids.length by omega),Aaa];have a:=(X i).st (Ur hb O) (stA x S i).2;rw [← Xt (show i<t.kids.length by omega)];show _++[plainT _]=_++[plainT _];rw [a]
theorem Zie(X:∀ i,Pl (Zb t i) (x i))(hb:blockB t=true):Al (stsR t x S).1 t:=Zlb (by rw [Wwf X (sh10 hb) S _ (Aka _),Ada])
theorem Uab{t:Nd}(h:noneB t=true):t.kids=[]:=Aqa.1 (Zia h).2.2
theorem Xse(X:∀ i,Pl (Zb t i) (x i))(hx:noneB (Zb t 0)=true∨exprB (Zb t 0)=true):Al (condR (Zb t 0) (x 0) S).1 (Zb t 0):=by
 unfold condR;cases h1:decide ((Zb t 0).kind=9);exact (X 0).ex (hx.resolve_left fun q=>of_decide_eq_false h1 (Zia q).1) S;exact Qjc (hx.elim Uab fun q=>absurd (of_decide_eq_true h1) (Zkb q))
theorem Yjg(X:∀ i,Pl (Zb t i) (x i))(hb:ifB t=true):Al (ifR t x S).1 t:=by
 obtain ⟨hl,h0,h1,h2⟩:=sh18 hb;unfold ifR;dsimp only;refine al_3 hl (Xse X (.inr h0)) ((X 1).blk h1 _) ?_;cases h3:decide ((Zb t 2).kind=10);cases h4:decide ((Zb t 2).kind=18);rcases h2 with q|q|q;rw [Yca q] at h3;cases h3;rw [show (Zb t 2).kind=18 from of_decide_eq_true (Aba.1 q).1] at h4;cases h4;exact Qjc (Uab q);refine (X 2).ifs ?_ _;have h4:=of_decide_eq_true h4;rcases h2 with q|q|q;rw [Yca q] at h4;cases h4;exact q;rw [(Zia q).1] at h4;cases h4;refine (X 2).blk ?_ _;have h3:=of_decide_eq_true h3;rcases h2 with q|q|q;exact q;rw [show (Zb t 2).kind=18 from of_decide_eq_true (Aba.1 q).1] at h3;cases h3;rw [(Zia q).1] at h3;cases h3
theorem Ule{t:Nd}(h:Zbc t=true)(h9:t.kind=9):t.kids=[]:=by
 rw [← Qub,Zcc] at h;rw [h9] at h;have h:(stmtB t || noneB t)=true:=h;rcases Bool.or_eq_true_iff.1 h with q|q;exact absurd h9 (Qab q);exact Uab q
theorem Vhg(X:∀ i,Pl (Zb t i) (x i))(hb:Xhb t=true)(f:Bool):Al (casR t x f S).1 t:=by
 obtain ⟨hk,hl,hc,hb1⟩:=sh23 hb;unfold casR;dsimp only;refine Uke hl ?_ ((X 1).sts hb1 _);cases h1:decide ((Zb t 0).kind=9);exact (X 0).st ((Jlc hc).resolve_left (of_decide_eq_false h1)) _;exact Qjc (Ule hc (of_decide_eq_true h1))
theorem Xte(X:∀ i,Pl (Zb t i) (x i))(hb:t.kids.all Xhb=true)(S:CSt):∀ i,i≤t.kids.length→(selA t x S i).1.map plainT=(t.kids.take i).map plainT
 | 0,_=>rfl
 | i+1,hi=>by
  show ((selA t x S i).1++[((x i).cas (selA t x S i).2.1 (selA t x S i).2.2).1]).map plainT=_;rw [Aaa,Xte X hb S i O,Aca (show i<t.kids.length by omega),Aaa];have a:=(X i).cas (Ur hb O) (selA t x S i).2.1 (selA t x S i).2.2;rw [← Xt (show i<t.kids.length by omega)];show _++[plainT _]=_++[plainT _];rw [a]
theorem Xue(t:Nd):Al (plainT t) t:=Wba t
theorem Wxf{t:Nd}{ks:List Nd}{k:Nat}(hc:t.kind=6∨t.kind=11)(h:ks.map plainT=t.kids.map plainT):Al (dclT t ks k) t:=Uud (hc.elim (fun h=>Xvd h Od Od) fun h=>Xvd h Od Od) h
theorem Vig(X:∀ i,Pl (Zb t i) (x i))(ht:t.kind=6)(hb:varB t=true):Al (varR F t x S).1 t:=by
 obtain ⟨_,hl,h0,h1⟩:=sh6 hb;unfold varR;dsimp only;refine Wxf (.inl ht) ?_;rw [Xre hl]
 have a:Al (bif decide ((Zb t 1).kind=9) then (clnT (Zb t 1),localS F (Zb t 0) S) else (((x 1).ex (localS F (Zb t 0) S)).1,failU (Qr (ofF (Zb t 0)).1 ((x 1).ex (localS F (Zb t 0) S)).1.ty) (Zb t 1).pos 7 ((x 1).ex (localS F (Zb t 0) S)).2)).1 (Zb t 1):=by
  cases h2:decide ((Zb t 1).kind=9);exact (X 1).ex (h1.resolve_left fun q=>of_decide_eq_false h2 (Zia q).1) _;exact Qjc (h1.elim Uab fun q=>absurd (of_decide_eq_true h2) (Zkb q))
 show [plainT (plainT _),plainT _]=[plainT _,plainT _];rw [Wba,a]
theorem Vjg(X:∀ i,Pl (Zb t i) (x i))(ht:t.kind=11)(hb:stmtB t=true):Al (defR t x S).1 t:=by
 obtain ⟨_,hl,h0⟩:=sh11 ht hb;have a:=(X 0).ex h0 S;unfold defR;dsimp only;refine Wxf (.inr ht) ?_;rw [Yhg hl];show [plainT _]=[plainT _];rw [a]
theorem Zlg{t:Nd}(hb:stmtB t=true)(h10:t.kind≠10)(h18:t.kind≠18)(h12:t.kind≠12)(h22:t.kind≠22)(h6:t.kind≠6)(h11:t.kind≠11)(h19:t.kind≠19)(h20:t.kind≠20)(h16:t.kind≠16):t.kids.length=1∧exprB (Zb t 0)=true:=by
 have hx:=(Aba.1 hb).1;unfold stK at hx;rw [Wnb] at hx;simp only [Ana,Aoa,or_false] at hx;rcases hx with e|e|e|e|e|e|e|e|e|e|e|e|e|e;exact absurd e h6;exact absurd e h10;exact absurd e h11;exact absurd e h12;exact sh13 e hb;exact sh14 e hb;exact sh15 e hb;exact absurd e h16;exact sh17 e hb;exact sh21 e hb;exact absurd e h18;exact absurd e h19;exact absurd e h20;exact absurd e h22
theorem al_st(X:∀ i,Pl (Zb t i) (x i))(hb:stmtB t=true):Al (stR F t x S).1 t:=by
 unfold stR;dsimp only;cases h10:decide (t.kind=10);case true=>exact Zie X (sh10s (of_decide_eq_true h10) hb)
 cases h18:decide (t.kind=18);case true=>exact Yjg X (sh18s (of_decide_eq_true h18) hb)
 cases h12:decide (t.kind=12)
 case true =>
  obtain ⟨hl,h0,h1⟩:=sh12 (of_decide_eq_true h12) hb;exact Uke hl ((X 0).ex h0 _) ((X 1).ex h1 _)
 cases h22:decide (t.kind=22);case true=>exact Zlb (by rw [Xte X (sh22 (of_decide_eq_true h22) hb) S _ (Aka _),Ada])
 cases h6:decide (t.kind=6);case true=>exact Vig X (of_decide_eq_true h6) (sh6s (of_decide_eq_true h6) hb)
 cases h11:decide (t.kind=11);case true=>exact Vjg X (of_decide_eq_true h11) hb
 cases h19:decide (t.kind=19)
 case true =>
  obtain ⟨hl,h0,h1⟩:=sh19 (of_decide_eq_true h19) hb;exact Uke hl (Xse X h0) ((X 1).blk h1 _)
 cases h20:decide (t.kind=20)
 case true =>
  obtain ⟨h1,h2⟩:=sh20 (of_decide_eq_true h20) hb;simp only [cond_false,cond_true];unfold retR;dsimp only;cases h3:decide ((t.kids.length:Int)=1);exact Wtf (Aqa.1 (by have:=of_decide_eq_false h3;omega));have h3:t.kids.length=1:=by have:=of_decide_eq_true h3;omega
  exact Xhc h3 ((X 0).ex (Ur h2 O) _)
 cases h16:decide (t.kind=16)
 case true =>
  obtain ⟨hl,h0,h1⟩:=sh16 (of_decide_eq_true h16) hb;exact Uke hl ((X 0).ex h0 _) ((X 1).ex h1 _)
 simp only [decide_eq_false_iff_not] at h10 h18 h12 h22 h6 h11 h19 h20 h16;obtain ⟨hl,h0⟩:=Zlg hb h10 h18 h12 h22 h6 h11 h19 h20 h16;have a:=(X 0).ex h0 S;simp only [cond_false,wantS];cases decide (t.kind=17);case true=>exact Xhc hl a
 cases decide (t.kind=21);case true=>exact Xhc hl a
 exact Xhc hl a
theorem pl_f(X:∀ i,Pl (Zb t i) (x i)):Pl t (ckF F t x) :=
 ⟨fun hx S=>Yig X hx,fun ht hx S=>Wuf X ht hx,fun ht hx S hr=>Veg ht hx hr,fun hx S=>Vgg X hx,fun hb S=>al_st X hb,fun hb S=>Zie X hb,fun hb S=>Yjg X hb,fun hb S=>Zie X hb,fun hb f S=>Vhg X hb f⟩
end
theorem pl_0:Pl nd0 ck0:=⟨fun _ _=>rfl,fun _ _ _=>rfl,fun _ _ _ h=>(by cases h),fun _ _=>rfl,fun _ _=>rfl,fun _ _=>rfl,fun _ _=>rfl,fun _ _=>rfl,fun _ _ _=>rfl⟩
theorem pl_t(F:Nd):∀ t,Pl t (ckT F t):=by
 refine Nd.ind fun t ih=>?_;rw [Yla];refine pl_f fun i=>?_;by_cases h:i<t.kids.length;rw [Vu h,Xt h];exact ih _ (Aga h);have e1:ckX F t i=ck0:=by rw [ckX];simp only [Aja,List.getElem?_map];rw [Ara O];rfl
 have e2:Zb t i=nd0:=by unfold Zb;simp only [Aja];rw [Ara O];rfl
 rw [e1,e2];exact pl_0
theorem Wyf(F p:Nd)(hp:∀ f∈p.kids,f.kind=3)(S:CSt):∀ i,i≤p.kids.length→(parA F p S i).1.map plainT=(p.kids.take i).map plainT
 | 0,_=>rfl
 | i+1,hi=>by
  rw [parA];dsimp only;rw [Aaa,Wyf F p hp S i O,Aca (show i<p.kids.length by omega),Aaa,← Xt (show i<p.kids.length by omega)];have hk:=hp (Zb p i) (by rw [Xt (show i<p.kids.length by omega)];exact Aga _);have a:Al (.mk (Zb p i).kind (Zb p i).text (declN (parA F p S i).2) (Zb p i).pos ((Zb p i).kids.map plainT) ty0 1 0) (Zb p i):=Uud (Xvd hk Od Od) (by rw [Aea];exact Aha fun k _=>Wba k);show _++[plainT _]=_++[plainT _];rw [a]
theorem Vkg{F n:Nd}(S:CSt)(hk:n.kind=4)(hp:permF n=true):Al (funR F n S).1 n:=by
 obtain ⟨hl,⟨p1,p2⟩,hr,b1,b2⟩:=pf4 hk hp;refine al_3 hl ?_ (Xue _) ((pl_t F (Zb n 2)).sts (by unfold blockB;rw [b1,b2];rfl) _);exact Zlb (by rw [Wyf F (Zb n 0) (fun f hf=>(Qwa (.inr p1) p2 f hf).1) _ _ (Aka _),Ada])
theorem Zmg{F n:Nd}(S:CSt)(hp:permF n=true):Al (dclR F n S).1 n:=by
 unfold dclR;cases h2:decide (n.kind=2);case true=>exact Xue n
 cases h6:decide (n.kind=6);case true=>exact Xue n
 cases h4:decide (n.kind=4);case true=>exact Vkg S (of_decide_eq_true h4) hp
 exact Xue n
theorem Xve{F:Nd}(hp:∀ d∈F.kids,permF d=true)(S:CSt):∀ i,i≤F.kids.length→(dclA F S i).1.map plainT=(F.kids.take i).map plainT
 | 0,_=>rfl
 | i+1,hi=>by
  rw [dclA];dsimp only;rw [Aaa,Xve hp S i O,Aca (show i<F.kids.length by omega),Aaa,← Xt (show i<F.kids.length by omega)];have a:=Zmg (F:=F) (dclA F S i).2 (hp (Zb F i) (by rw [Xt (show i<F.kids.length by omega)];exact Aga _));show _++[plainT _]=_++[plainT _];rw [a]
theorem Ume{t:Nd}(h:permF t=true):∀ k∈t.kids,permF k=true:=by
 rw [Qw,Afa,Aia] at h;exact h.2
theorem Zje{F:Nd}(h:validB F=true):F.kind=1∧permF F=true:=by
 unfold validB permB at h;simp only [Afa,decide_eq_true_eq] at h;exact ⟨h.1,h.2.1⟩
theorem Xxd{F:Nd}(hv:validB F=true):Al (refA F) F:=by
 obtain ⟨h1,hp⟩:=Zje hv;exact Zlb (by rw [Xve (Ume hp) _ _ (Aka _),Ada])
theorem Une{F:Nd}(hv:validB F=true):refCheck (refA F)=refCheck F:=by rw [← Zhd,Xxd hv,Zhd]
theorem Vlg:∀ a b,plainT a=plainT b→eqB a b=true:=by
 refine Nd.ind fun a ih b h=>?_;rw [Vo,Vo b] at h;injection h with h1 h2 h3 h4 h5;have hl:a.kids.length=b.kids.length:=by have:=congrArg List.length h5;rwa [List.length_map,List.length_map] at this
 rw [Jje,Afa];refine ⟨?_,Aia.2 fun i hi=>?_⟩;unfold Uyb;rw [Vxg h1,Vxg h2,lenQ_iff.2 hl];cases hc:countsB a;rfl;have hb:countsB b=true:=by unfold countsB at hc ⊢;rw [← h1];exact hc
 have hn:a.num=b.num:=by unfold numS at h3;rw [hc,hb] at h3;exact h3
 rw [Vxg hn];rfl;have hi:=List.mem_range.1 hi
 have e:plainT (Zb a i)=plainT (Zb b i):=by
  have e1:=congrArg (fun l:List Nd=>l[i]?) h5;rw [Xt hi,Xt (hl▸hi)];simpa [Asa hi,Asa (show i<b.kids.length from hl▸hi)] using e1
 rw [Xt hi] at e ⊢;exact ih _ (Aga hi) _ e
theorem Zng{F:Nd}(hv:validB F=true):count (refA F)=count F:=by rw [← Xqc (refA F),Xxd hv,Xqc]
theorem Uoe(t:Nd)(v:Value)(D:Nat→Prop)(w:World)(hk:Kd w D t.kids v)(hc:count t≤1048576):Ret PP 11 #[ndV t v] w fun r w'=>r = .bool (decide ((250:Int)<(count t:Nat)))∧G w w':=by
 have g:=G.refl w;obtain ⟨p,c,rfl,_⟩:=id hk;refine WK 6 [0] Tryz.func11 ?_;refine BM fun _ _ ga _ g E=>?_;have nat1:=ga.at_;have hk:=Ui hk;refine AU ?_;refine CL (Wse t _ _ _ hk O) ?_;rintro _ _ ⟨rfl,ga⟩;refine RC fun g E=>?_;refine RTN ?_;exact ⟨rfl,g⟩
theorem Vmg{F:Nd}(h:(refCheck F).2.2≠0):(refCheck F).1=nd0:=by
 unfold refCheck at h ⊢;cases hv:validB F;rfl;rw [hv] at h;cases he:decide ((refS F).ee=0);rfl;rw [he] at h;exact absurd rfl h
theorem Vng{F:Nd}(h:(refCheck F).2.2=0):validB F=true∧refCheck F=(refA F,0,0):=by
 cases hv:validB F;rw [Xmd hv] at h;exact absurd h (show ¬ (1:Int)=0 by decide);refine ⟨rfl,?_⟩;by_cases he:(refS F).ee=0;exact Ucd hv he;rw [Xee hv he] at h;exact absurd h he
theorem Zke(t:Nd)(v:Value)(D:Nat→Prop)(w:World)(hL:LaidW w.heap.size w)(hkD:Kd w D t.kids v)(hc:count t≤1048576):Ret PP 5 #[ndV t v] w fun r w'=>r = .bool true∧G w w':=by
 obtain ⟨n0,hn0⟩:∃ n,n=w.heap.size:=⟨_,rfl⟩;have hk:Kd w (fun k=>k<n0) t.kids v:=Kd.mono hkD fun k _ h=>by rw [hn0];exact h
 obtain ⟨p,c,rfl,_⟩:=id hk;have g:=G.refl w;refine WK 46 [0] Tryz.func5 ?_;refine BM fun b1 _ ga _ g E=>?_;have nat1:=ga.at_;have hk:=Ui hk;refine AU ?_;refine Wk J (Yd Znd Vt (aq0) J) (Uhe _ ((hL.grow g).top)) ?_;rintro _ _ ⟨rfl,ga⟩;refine RC fun g E=>?_;have hk:=Uk hk;refine IF (fun h1=>?_) fun h1=>?_
 ·exact absurd h1 Od
  done
 refine AU ?_;refine CL (Uoe t _ _ _ hk hc) ?_;rintro _ _ ⟨rfl,ga⟩;refine RC fun g E=>?_;have hk:=Uk hk;refine IF (fun h2=>?_) fun h2=>?_
 ·(try simp only [bsimp] at h2)
  refine RTN ?_;exact ⟨rfl,g⟩
 replace h2:count t≤250:=by simp only [decide_eq_false_iff_not] at h2;omega
 refine AU ?_;refine CL (Xfc t _ _ _ [b1] hk O ((hL.grow g).top) (E.ltm Ob) g.size) ?_;rintro _ _ ⟨⟨p15,c15,rfl,q15,k15⟩,ga⟩;refine RC fun g E=>?_;have hk:=Uk hk;refine AN fun b3 _ ga _ g E=>?_;have nat3:=ga.at_;have k15:=Uj k15;have hk:=Ui hk;refine AS fun _ ga _ g E=>?_;have hk:=Ud hk;have k15:=k15.keep ga Oi;refine IF (fun h3=>?_) fun h3=>?_
 ·replace h3:(refCheck t).2.2≠0:=by simpa using h3
  have hnd:=Vmg h3;refine AU ?_;refine CP (Wxd (refCheck t).1 _ _ nd0 (.slice none 0 0) (fun _=>True) _ k15 (Qtb _ _) (by rw [hnd];decide)) (fun w23 g23=>?_);have g:=g.trans g23;replace E:=E.grow g23;refine RTN ?_;exact ⟨by rw [hnd,Wwd],g⟩
 replace h3:(refCheck t).2.2=0:=by simpa using h3
 obtain ⟨hv,er⟩:=Vng h3;have eA:(refCheck t).1=refA t:=by rw [er]
 have h21:(refCheck t).2.1=0:=by rw [er]
 have hcA:count (refCheck t).1≤250:=by rw [eA,Zng hv];exact h2
 have eR:refCheck (refCheck t).1=refCheck t:=by rw [eA];exact Une hv
 refine AU ?_;refine CL (Xfc (refCheck t).1 _ _ _ [b1,b3] k15 O ((hL.grow g).top) (E.ltm Ob) g.size) ?_;rintro _ _ ⟨⟨p26,c26,rfl,q26,k26⟩,ga⟩;refine RC fun g E=>?_;have hk:=Uk hk;have k15:=Uk k15;rw [eR,h3,h21];rw [eR] at k26;refine AN fun _ _ ga _ g E=>?_;have nat6:=ga.at_;have k15:=Uj k15;have k26:=Uj k26;have hk:=Ui hk;refine AS fun _ ga _ g E=>?_;have hk:=Ud hk;have k15:=k15.keep ga Oi;have k26:=k26.keep ga Oi;refine AU ?_;refine CP (Vee (refCheck t).1 _ _ t _ _ _ k15 hk O) (fun w32 g32=>?_);have g:=g.trans g32;replace E:=E.grow g32;have k15:=k15.grow (g32);have k26:=k26.grow (g32);refine AU ?_;refine CG (fun hc=>Wxd (refCheck t).1 _ _ (refCheck t).1 _ _ _ k15 k26 O) (fun w44 g44=>?_);have g:=g.trans g44;replace E:=E.grow g44;refine RTN ?_;refine ⟨Vyg ?_,g⟩;rw [Vlg _ _ (by rw [eA];exact Xxd hv),Wwd];rfl
end Go.Rk
