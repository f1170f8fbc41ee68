/- Merged texts. Conditions: each text's own. -/
import Derived.Test.YtmpfjifhkmdbaaaGreatDoorH02
import Derived.Test.YtmpfjifhkmdbaaaGreatDoorH04
import Derived.Test.YtmpfjifhkmdbaaaGreatDoorH03
set_option linter.unusedSimpArgs false
set_option linter.unusedVariables false
set_option maxHeartbeats 16000000
set_option maxRecDepth 100000
open Bool renaming and_eq_true→Aca,and_eq_true_iff→Aea,xor→Aja,true_and→Aka,or_eq_false_iff→Ata
open Go renaming World→Aa,TypeId→Ba,Value→Da
open Go.World renaming block_lt_of_cell?→Ea,cell?_of_block→Fa
open List renaming getElem?_eq_getElem→Ada,getD_eq_getElem?_getD→Aga,length_append→Aia,all_eq_true→Ala,getElem_mem→Ama,length_eq_zero_iff→Ana,mem_cons→Aoa,not_mem_nil→Apa,map_append→Aqa,take_succ_eq_append_getElem→Ara,mem_cons_of_mem→Asa,take_succ_cons→Ava
open Nat renaming le_refl→Aaa,lt_irrefl→Aba,zero_add→Afa,zero_le→Aha,lt_of_lt_of_le→Aua
namespace Go.Proofs
end Go.Proofs
namespace Go.Rk
open Go.Proofs
open Go Go.RowKit
theorem PK.erd{F:Nd}{n0 b:Nat}{TB X:List Nat}{r0:Option (List Ty)}{S:CSt}{fv:Da}{ms mg mn mf:Nat}{pv:Nat→Da}{sv cv rv:Da}{vs:List Da}{sc:List (List Vr)}{w:Aa}(h:PK F n0 b TB X r0 S fv ms mg mn mf pv sv cv rv vs sc w){l:List Vr}(hl:sc[S.scope]? = some l){i:Nat}(h1:i<l.length){s:List UInt8}{y:Ty}{a:Int}{q:Bool}(hq:q=false→l[i].name=s)(hz:q=false):Er (failU q a 6 S) (declS s y a S):=by
 have hd:dupV S s=true:=by
  rw [h.dup hl,List.any_eq_true];exact ⟨l[i],Ama h1,Jyg (hq hz)⟩
 unfold declS;rw [hz,hd];exact Er.refl _
theorem Joa{F:Nd}{n0 b:Nat}{TB X:List Nat}{r0:Option (List Ty)}{S:CSt}{w:Aa}{N:Nat}(u:Nd)(kp:Option Addr)(km kc:Nat)(y:Ty)(h:PC F n0 b TB X r0 S w)(he:S.ee=0)(hb:Bd S N)(hN:N≤1000000) :
 RetP PP 56 #[.pointer (some ⟨b,0,none⟩),ndV u (.slice kp km kc),tyV y] w (fun r w'=>(declS u.text y u.pos S).ee=0∧r=ndV (.mk u.kind u.text (declN S) u.pos [] u.ty 1 u.up) (.slice kp km kc)∧PC F n0 b TB X r0 (declS u.text y u.pos S) w'∧GT (mutC X) n0 w w') (Bad n0 b X (S.scope+1) (declS u.text y u.pos S) w):=by
 have hlt:=h.lt;have htb:=h.tb;have htb2:∀ j∈TB,j<w.heap.size:=fun j hj=>htb.2 j (htb.1 j hj);have hlv:=hb.lv;have hnl:=hb.nl;have hvl:=hb.vl;have hscN:=hb.sc
 have hdn:declN S≤N:=by
  unfold declN;rw [Aga,Ada hlv];exact hb.nx _ (Ama hlv)
 obtain ⟨fv,ms,mg,mn,mf,pv,sv,cv,rv,vs,sc,h⟩:=h;have hln:=h.sr.len;have hsl:=h.sl;have hfl:=h.fl;obtain ⟨l,hl⟩:∃ l,sc[S.scope]? = some l:=⟨_,Ada O⟩;obtain ⟨q,hq⟩:∃ q,vs[S.scope]? = some q:=⟨_,Ada O⟩;obtain ⟨pa,pc,rfl,hc,_⟩:=Xqd h.so;obtain ⟨pi,ci,rfl,hci,_⟩:=Usc (h.sr.row _ _ _ hq hl)
 have hll:l.length≤1000000:=by
  have hm:l∈sc:=List.mem_of_getElem? hl;have:=(List.sublist_flatten_of_mem hm).length_le;rw [hfl] at this;omega
 have esl:(((S.level+1:Nat):Int)-1).toNat=S.level:=by omega
 have esv:((vs.length:Int)-1).toNat=S.scope:=by omega
 have g:=GT.refl (mutC X) n0 w;refine Vd (m:=85) Tryz.func56 J J [(0,True,_),(1,True,_),(2,True,_)] (Zb J (Zb J (Zb J (Zq _)))) ?_;refine Zk (Zn (BM fun b4 _ ga _ g E=>?_));have hp4:=h;have h:=Ui h;refine BN fun b5 _ N5 _ g E=>?_;have hp5:=h;have h:=h.grow (N5.g);have h:=hp5.addX N5;refine AN fun b6 _ ga _ g E=>?_;have hp6:=h;have h:=Ui h;refine Ze (kq (Zk (Zn (Zu J (Vx J (Xa Yv J (Xn Yl J (h.B.at_ J) (Xva Yp J (Zz J (fun _=>Xia (Zc J) Xv (fun _=>O)) (Xf J (Ze (kq (Zk (Zk (Zn (?_))))))))))))))));obtain ⟨pa',pc',e',_,hat⟩:=Xqd h.so;injection e' with e1 _ e2;subst e1 e2;refine Zu J (Vx J (Xa Yv J (Xn Yl J (h.B.at_ J) (Zu J (Zz J (fun _=>Xr Yp (Zc J) (Zc J) (fun _=>O) (fun _=>(hat _ _ hq).1)) (Xn Vc J (by rw [esv];exact (hat _ _ hq).2) (Xva Wq J (Zu J (Ze (kq (Yw (?_))))))))))));have hnd1:=E.1;refine Qa (fun (i:Nat) u1=>(i≤l.length∧((l.take i).any fun v=>decide (v.name=u.text))=false∧PK F n0 b TB (b5::X) r0 S fv ms mg mn mf pv (.slice pa vs.length pc) cv rv vs sc u1)∧GT (mutC X) n0 w u1) _ [(0,True,_),(4,True,_),(5,True,_),(6,True,_),(7,True,_),(23,True,_),(24,True,_)] (fun (i:Nat)=>[(25,True,.int .i64 i)]) (fun (i:Nat)=>l.length-i) (0) ⟨⟨Aha _,rfl,h⟩,g⟩ (Zx (blkE E.g2) (Zx (blkE E.g1) (Zx (blkE E.g0) (Wa _)))) (Zb J (Zb J (Zb J (Zb J (Zb J (Zb J (Zb J (Zb J (Zq _))))))))) ?_;clear E;rintro i u1 ⟨hI1,gl1⟩ ⟨B4,B5,B6,_⟩;replace B4:Blk _ _ _ _:=B4;replace B5:Blk _ _ _ _:=B5;replace B6:Blk _ _ _ _:=B6;have g:=gl1;clear h hat;obtain ⟨hi,hno,h⟩:=hI1;obtain ⟨pi',ci',e',_,hrow⟩:=Usc (h.sr.row _ _ _ hq hl);injection e' with e1 _ e2;subst e1 e2
 have E:=Vwa (L:=[(b6,_,_),(b5,_,_),(b4,_,_)]) hnd1 ⟨B6,B5,B4,trivial⟩ rfl;refine IF (fun h1=>?_) fun h1=>?_;replace h1:i<l.length:=by simp only [Zah] at h1;omega
 obtain ⟨hpe,hcell⟩:=hrow i h1;have hst:((l.take (i+1)).any fun v=>decide (v.name=u.text))=decide (l[i].name=u.text):=by rw [Ara h1,List.any_append,hno,Bool.false_or];simp
 refine AN fun _ _ N9 _ g E=>?_;have hp9:=h;have h:=h.grow (N9.g);have h:=hp9.addX N9;refine AS fun _ ga Ca g E=>?_;first|have h:=h.keep ga Ca O (.inl rfl)|have h:=h.keep ga Ca O (.inr ⟨by simp,fun hm=>by have:=htb2 _ hm;omega⟩)
 refine AU ?_;refine Y3 J Yd J J J (Wy _ _ _ _) ((fun ch w' hz=>Un (h.sub (Y:=X) htb.1 (by intro j hj;simp [hj])).pc he Od (h.erd hl h1 (fun e=>by simpa using e) hz.1) hz g (Aaa _))) ?_;rintro _ _ ⟨rfl,hq36,ga⟩;refine RC fun g E=>?_;have h:=Uk h;refine AU ?_;refine SK [25,0,4,5,6,7,23,24] ?_;refine Ze (fun a ha=>?_);exact ⟨i+1,ha,⟨⟨h1,by rw [hst];simpa using hq36,h.sub (fun j hj=>Asa _ (htb.1 j hj)) (fun j hj=>Asa _ hj)⟩,g⟩,(Zx (blkE E.g3) (Zx (blkE E.g2) (Zx (blkE E.g1) (Wa _)))),O⟩;replace h1:i=l.length:=by simp only [Zbh] at h1;omega
 subst h1;rw [List.take_length] at hno;have hdp:dupV S u.text=false:=by rw [h.dup hl];exact hno
 refine AU ?_;obtain ⟨gs,cs,ls,ecv,hgs,hBs,hms,hls,htk,hre⟩:=Vqb h.co O
 have hel:ls[0+S.level*1]? = some (.int .i64 (declN S:Nat)):=by
  rw [Uad htk O,show 0+S.level*1=S.level by omega,List.getElem?_map,List.getElem?_take_of_lt O,Ada hlv,declN,Aga,Ada hlv];rfl
 subst ecv;refine AU ?_;refine Yx (rowR (some b4)) [3,3,3,0,3,3,0,3,1,3,1] [0,1,3,7,0,31,63,0,128,511,1023] mix KR [0,1,2,3,4,5,6,7,8,9,10] J ?_;have g:=gtd g;replace E:=E.dr;have h:=h.grow (G.drew _);have hBs:=hBs.grow (G.drew _);refine Zr 0 J J (fun _=>Zw (Zc J)) (Zr 1 J J (fun _=>Zxa (Zc J)) (Zr 2 J J (fun _=>Zh Jz (Zc J)) (Yg 3 J J (fun w1 hx=>Zt Yrb (Zc J) (fun _=>(h.B.keep hx (fun e=>by injection e with e;omega)).at_ J)) (Zr 4 J J (fun _=>Zw (Zc J)) (Zr 5 J J (fun _=>Jva Zoa (Zc J) (Zc J) (fun _=>O)) (Yg 6 J J (fun w1 hx=>Zt Yf (Zc J) (fun _=>by rw [esl];exact (hBs.keep hx (fun e=>Xy h.co E.g2 J e)).at_ hel)) (Zr 7 J J (fun _=>Zh Qz (Zc J)) (Zm 8 J J ?_))))))));refine Zl (L':=[9,10]) [3,3,3,0,3,3,0,3,2,3,2] J J J ?_;refine AS fun _ hgS2 Ca g E=>?_;have hBs:=hBs.keep hgS2 (fun e=>Xy h.co Ca rfl e);first|have h:=h.keep hgS2 Ca O (.inl rfl)|have h:=h.keep hgS2 Ca O (.inr ⟨by simp,fun hm=>by have:=htb2 _ hm;omega⟩)
 refine Zs (hgS2) ?_;refine Zr 9 J J (fun _=>Zh Ux (Zc J)) (Zm 10 J J ?_);refine Zl (L':=[]) [3,3,3,0,3,3,0,3,2,3,2] J J J ?_;refine AS fun _ hgS3 Ca g E=>?_;have hBs:=hBs.keep hgS3 (fun e=>Xy h.co Ca rfl e);first|have h:=h.keep hgS3 Ca O (.inl rfl)|have h:=h.keep hgS3 Ca O (.inr ⟨by simp,fun hm=>by have:=htb2 _ hm;omega⟩)
 refine Zs (hgS3) ?_;refine TK [0,4,5,6,7,10,38,39,40,41,42,43,44,45,46,47,48,49,50,51,52] ?_;refine AU ?_;refine Yx (rowR ((Value.slice pi l.length ci).ownBlock)) [3,3,3,0,3,3,3,3,0,3,3,0,3,0,0,3,0,3,3,1,1,3,2] [0,1,3,7,0,0,32,96,224,0,992,2016,0,4096,0,0,32768,0,258048,520192,1048544,2097151,4194303] mix KR [0,1,2,3,4,5,6,7,8,9,10,11,12,13,14,15,16,17,18,19,20,21,22] J ?_;have g:=gtd g;replace E:=E.dr;have h:=h.grow (G.drew _);have hBs:=hBs.grow (G.drew _);have hrw:=h.sr.row _ _ _ hq hl;obtain ⟨gq,cq,lq,epa,hgq,hBq,hmq,hlq,htq,hrq⟩:=Vqb h.so O;injection epa with e1 _ e2;subst e1 e2;have helq:lq[0+S.scope*1]? = some (.slice pi l.length ci):=by rw [Uad htq O,show 0+S.scope*1=S.scope by omega];exact hq
 refine Zr 0 J J (fun _=>Zw (Zc J)) (Zr 1 J J (fun _=>Zxa (Zc J)) (Zr 2 J J (fun _=>Zh Yv (Zc J)) (Yg 3 J J (fun w1 hx=>Zt Yl (Zc J) (fun _=>(h.B.keep hx (fun e=>Xy hrw h.B J e.symm)).at_ J)) (Zr 4 J J (fun _=>Zw (Zc J)) (Zr 5 J J (fun _=>Zw (Zc J)) (Zr 6 J J (fun _=>Zxa (Zc J)) (Zr 7 J J (fun _=>Zh Yv (Zc J)) (Yg 8 J J (fun w1 hx=>Zt Yl (Zc J) (fun _=>(h.B.keep hx (fun e=>Xy hrw h.B J e.symm)).at_ J)) (Zr 9 J J (fun _=>Zw (Zc J)) (Zr 10 J J (fun _=>Jva Yp (Zc J) (Zc J) (fun _=>O)) (Yg 11 J J (fun w1 hx=>Zt Vc (Zc J) (fun _=>by rw [esv];exact (hBq.keep hx (fun e=>Xy hrw hBq J e.symm)).at_ helq)) (Zr 12 J J (fun _=>Zh Xt (Zc J)) (Yg 13 J J (fun w1 hx=>Zt Xc (Zc J) (fun _=>(E.g2.keep hx (fun e=>Xy hrw E.g2 J e.symm)).at_ J)) (Yg 14 J J (fun w1 hx=>Zo Zj (Zc J) J (fun _=>(E.g1.keep hx (fun e=>Xy hrw E.g1 J e.symm)).row)) (Zr 15 J J (fun _=>Zh Ux (Zc J)) (?_))))))))))))))));refine Yg 16 J J (fun w1 hx=>Zt Yf (Zc J) (fun _=>(E.g2.keep hx (fun e=>Xy hrw E.g2 J e.symm)).at_ J)) (Zr 17 J J (fun _=>Zw (Zc J)) (Zr 18 J J (fun _=>Qt [_,_,_,_,_] Qu J Xoa (Uq (Zc J) (Uq (Zc J) (Uq (Zc J) (Uq (Zc J) (Up))))) J) (Zm 19 J J ?_)));refine Zl (L':=[20,21,22]) [3,3,3,0,3,3,3,3,0,3,3,0,3,0,0,3,0,3,3,1,2,3,2] J J J ?_;refine Ya _ J Wq Qu (pqc J pq0) J J ?_;intro b72 w72 N72;have l72:=Wc N72 g.size;have hp72:=h;have B72:=N72.blk;have g:=gtg g N72.g;replace E:=E.grow N72.g;have h:=h.grow (N72.g);have hBs:=hBs.grow (N72.g);have hBq:=hBq.grow (N72.g);have hrw:=Xl hrw (N72.g);refine Zs ((N72.g).only _) ?_;refine Zm 20 J J ?_;refine Zl (L':=[21,22]) [3,3,3,0,3,3,3,3,0,3,3,0,3,0,0,3,0,3,3,1,2,3,2] J J J ?_
 refine Ur J Wq Qu J Od (Zc J) hrw (Zc J) J N72.blk.row J (by simp only [maxLen];omega) O (by have:=g.size;have:=h.L.hn;omega) ?_;intro a73 c73 w73 ho73 hg73 hat73;have hBq73:=hBq.keep hg73 (fun e=>Xy hrw hBq rfl e.symm);have hBs73:=hBs.keep hg73 (fun e=>Xy hrw hBs rfl e.symm);have B73:Blk w73 b 59 _:=h.B.keep hg73 (fun e=>Xy hrw h.B rfl e.symm);replace E:=E.keepN hrw hg73 rfl;refine Zs (hg73) ?_;refine Zr 21 J J (fun _=>Jva Yp (Zc J) (Zc J) (fun _=>O)) (Zm 22 J J ?_);refine Ys (L':=[]) [3,3,3,0,3,3,3,3,0,3,3,0,3,0,0,3,0,3,3,1,2,3,2] J J J J ?_;refine Xb J Wra (Zc J) (Zc J) J J hBq73 (Nat.ble_eq.mpr (by have:=hlq;have:=hmq;simp;omega)) J ?_;intro wA hgA hzA BA;replace E:=E.keepT hgA hBq73 rfl;have hBs74:=hBs73.keep hgA (fun e=>by injection e with e;exact Zta hBs73 hBq73 Od e);have B74:=B73.keep hgA (fun e=>by injection e with e;exact Zta B73 hBq73 Od e);replace BA:Blk wA gq 82 (lq.set (0+S.scope*1) (.slice a73 (l.length+1) c73)):=by rw [Xte O];rw [esv] at BA;exact BA
 have so74:=hrq _ _ BA (by rw [List.length_set];exact hlq);have e5:(lq.set (0+S.scope*1) (.slice a73 (l.length+1) c73)).take (vs.length*1)=vs.set S.scope (.slice a73 (l.length+1) c73):=by rw [take_set _ _ _ _ O,htq,show 0+S.scope*1=S.scope by omega]
 rw [e5] at so74;refine Xm ?_;refine Vaa [(0,_,_),(4,_,_),(5,_,_),(6,_,_),(7,_,_),(10,_,_),(38,_,_),(39,_,_),(40,_,_),(41,_,_),(42,_,_),(43,_,_),(44,_,_),(45,_,_),(46,_,_),(47,_,_),(48,_,_),(49,_,_),(50,_,_),(51,_,_),(52,_,_),(53,_,_),(54,_,_),(55,_,_),(56,_,_),(57,_,_),(58,_,_),(59,_,_),(60,_,_),(61,_,_),(62,_,_),(63,_,_),(64,_,_),(65,_,_),(66,_,_),(67,_,_),(68,_,_),(69,_,_),(70,_,_),(71,_,_),(72,_,_),(73,_,_),(74,_,_)] (Zb J (Zb J (Zb J (Zb J (Zb J (Zb J (Zb J (Zb J (Zb J (Zb J (Zb J (Zb J (Zb J (Zb J (Zb J (Zb J (Zb J (Zb J (Zb J (Zb J (Zb J (Zb J (Zb J (Zb J (Zb J (Zb J (Zb J (Zb J (Zb J (Zb J (Zb J (Zb J (Zb J (Zb J (Zb J (Zb J (Zb J (Zb J (Zb J (Zb J (Zb J (Zb J (Zb J (Zq _)))))))))))))))))))))))))))))))))))))))))))) (Jl (kq (Zk (Zn (Zu J (Vx J (Xa Jz J (Xn Yrb J (B74.at_ J) (Zu J (Jhb Zoa J J O (Xn Yf J (by rw [esl];exact hBs74.at_ hel) (Zeb J J O (Jhb Zoa J J O (Xb J Vca (Zc J) (Zc J) J J hBs74 (Nat.ble_eq.mpr (by have:=hls;have:=hms;simp;omega)) J ?_))))))))))))));intro wB hgB hzB BB;replace E:=E.keepT hgB hBs74 rfl;replace BB:Blk wB gs 3 (ls.set (0+S.level*1) (.int .i64 ((declN S+1:Nat):Int))):=by rw [Xte O];rw [esl] at BB;exact BB
 have co83:=hre _ _ BB (by rw [List.length_set];exact hls);rw [take_set _ _ _ _ O,htk,show 0+S.level*1=S.level by omega] at co83;rw [show (((S.level+1:Nat):Int)-1)=((S.level:Nat):Int) by omega] at ho73;obtain ⟨h,G83⟩:=h.dcl (y:=y) (a:=u.pos) hl hq hdp hlv hg73 ho73 (fun k hk=>hat73.imp (fun q=>q.symm.trans hk) fun q=>by rw [hk] at q;injection q with q;omega) hgA so74 hgB co83;have g:=gtw g G83;refine AS fun _ ga Ca g E=>?_;first|have h:=h.keep ga Ca O (.inl rfl)|have h:=h.keep ga Ca O (.inr ⟨by simp,fun hm=>by have:=htb2 _ hm;omega⟩)
 refine RTN ?_;exact ⟨by rw [Xsd hdp];exact he,rfl,(h.sub htb.1 (by intro j hj;simp [hj])).pc,g⟩
theorem RowAt.kn{w w':Aa}{b o:Nat}{l:List Da}(h:RowAt w b o l)(hg:w.grownBy w' none):RowAt w' b o l:=fun i v hi =>
 (Fa (hg.block _ (Ea w _ (h i v hi)) (fun e=>nomatch e))).trans (h i v hi)
theorem Wnf(x:Nd):((decide (x.kind=28) || decide (x.kind=29)) || (decide (x.kind=27) && !decide (x.ref=3)))=(((decide (x.kind=27) && !decide (x.ref=3)) || decide (x.kind=28)) || decide (x.kind=29)):=by
 cases decide (x.kind=28) <;> cases decide (x.kind=29) <;> cases (decide (x.kind=27) && !decide (x.ref=3)) <;> rfl
theorem Qi{b5 lo b' o':Nat}{X:List Nat}{w:Aa}{ks:List Nd}{u x:Nd}{s:Da}{news:List Da}(hB:Blk w b5 26 (ndCells u s))(hO:OwnN X lo w ks s)(h5:b5∈X)(hR:RowAt w b' o' news)(hK:KRow w (fun b=>(Dx lo X b∧NdR w b)∧some b≠s.ownBlock) [x] news)(hlen:ks.length+1≤10000000)(hlo:lo≤w.heap.size)(hD:Dx lo X w.heap.size) :
 Ret PP 111 #[.slice (some ⟨b',o',none⟩) 1 1,.pointer (some ⟨b5,0,none⟩)] w fun r w'=>r = .tuple #[]∧∃ a c w1,OwnN X lo w' (ks++[x]) (.slice a (ks++[x]).length c)∧w.grownBy w1 s.ownBlock∧w1.grownBy w' (some b5)∧Blk w1 b5 26 (ndCells u s)∧Blk w' b5 26 (ndCells u (.slice a (ks++[x]).length c)):=by
 have g:=G.refl w;refine WK 8 [0,1] Tryz.func111 ?_;refine AU ?_;refine Wia J Zd Zp J (Zc J) hO (Zc J) J hR hK hlen hlo hD ?_;intro a6 c6 w6 hO6 hg6;have B6:=hB.keep hg6 (hO.ne h5);refine AU ?_;refine Xi J Vi (Zc J) (Zc J) J B6 J J ?_;intro w8 hg8 hz8 B8;have hO8:=hO6.keep hg8 h5;refine Ze (Ypa J ?_);exact ⟨rfl,a6,c6,w6,hO8,hg6,hg8,B6,B8⟩
section
variable {F t:Nd} {S:CSt}
theorem Wzb(F t:Nd)(S:CSt):(ckT F t).st S=stR F t (ckX F t) S:=by rw [Vm];rfl
theorem Ukd(h:t.kind=10):(ckT F t).st S=(ckT F t).blk S:=by rw [Vm];show stR F t (ckX F t) S=blkR t (ckX F t) S;unfold stR;rw [h];rfl
theorem st_18'(h:t.kind=18):(ckT F t).st S=(ckT F t).ifs S:=by rw [Vm];show stR F t (ckX F t) S=ifR t (ckX F t) S;unfold stR;rw [h];rfl
theorem st_6(h:t.kind=6):(ckT F t).st S=varR F t (ckX F t) S:=by rw [Wzb];unfold stR;rw [h];rfl
theorem st_11(h:t.kind=11):(ckT F t).st S=defR t (ckX F t) S:=by rw [Wzb];unfold stR;rw [h];rfl
theorem st_12(h:t.kind=12):(ckT F t).st S=asgR t (ckX F t) S:=by rw [Wzb];unfold stR;rw [h];rfl
theorem st_18(h:t.kind=18):(ckT F t).st S=ifR t (ckX F t) S:=by rw [Wzb];unfold stR;rw [h];rfl
theorem st_19(h:t.kind=19):(ckT F t).st S=forR t (ckX F t) S:=by rw [Wzb];unfold stR;rw [h];rfl
theorem st_20(h:t.kind=20):(ckT F t).st S=retR t (ckX F t) S:=by rw [Wzb];unfold stR;rw [h];rfl
theorem st_22(h:t.kind=22):(ckT F t).st S=selR t (ckX F t) S:=by rw [Wzb];unfold stR;rw [h];rfl
theorem st_13(h:t.kind=13∨t.kind=14∨t.kind=15):(ckT F t).st S=(annT t [((ckX F t 0).ex S).1] ty0,((ckX F t 0).ex S).2):=by
 rw [Wzb];unfold stR;rcases h with h|h|h <;> (rw [h];rfl)
theorem st_16(h:t.kind=16):(ckT F t).st S=(annT t [((ckX F t 0).ex S).1,((ckX F t 1).ex (wantS ((ckX F t 0).ex S).1 6 (Za t 0).pos ((ckX F t 0).ex S).2)).1] ty0,wantS ((ckX F t 1).ex (wantS ((ckX F t 0).ex S).1 6 (Za t 0).pos ((ckX F t 0).ex S).2)).1 1 (Za t 1).pos ((ckX F t 1).ex (wantS ((ckX F t 0).ex S).1 6 (Za t 0).pos ((ckX F t 0).ex S).2)).2):=by rw [Wzb];unfold stR;rw [h];rfl
theorem st_17(h:t.kind=17):(ckT F t).st S=(annT t [((ckX F t 0).ex S).1] ty0,wantS ((ckX F t 0).ex S).1 6 (Za t 0).pos ((ckX F t 0).ex S).2):=by rw [Wzb];unfold stR;rw [h];rfl
theorem st_21(h:t.kind=21):(ckT F t).st S=(annT t [((ckX F t 0).ex S).1] ty0,failU (decide (((ckX F t 0).ex S).1.ty.kind=1) || decide (((ckX F t 0).ex S).1.ty.kind=2)) (Za t 0).pos 7 ((ckX F t 0).ex S).2):=by rw [Wzb];unfold stR;rw [h];rfl
def restA(F t:Nd)(S:CSt):Nat→List Nd×CSt
 | 0=>([],S)
 | i+1 =>
  let a:=restA F t S i
  let e:=bif decide ((Za t (i+1)).kind=9) then (clnT (Za t (i+1)),a.2) else (ckT F (Za t (i+1))).st a.2
  (a.1++[e.1],e.2)
theorem Xic(F t:Nd)(S:CSt):∀ i,(restA F t S i).1.length=i
 | 0=>rfl
 | i+1=>by
  show ((restA F t S i).1++[_]).length=_;rw [Aia,Xic F t S i];rfl
theorem Wbe(F t:Nd)(S:CSt)(i:Nat):∀ k,Er (restA F t S i).2 (restA F t S (i+k)).2
 | 0=>Er.refl _
 | k+1=>by
  refine (Wbe F t S i k).trans ?_;show Er _ (bif decide ((Za t (i+k+1)).kind=9) then (clnT (Za t (i+k+1)),(restA F t S (i+k)).2) else (ckT F (Za t (i+k+1))).st (restA F t S (i+k)).2).2;cases decide ((Za t (i+k+1)).kind=9);exact ((Uh F _).st _).e;exact Er.refl _
def cndA(F t:Nd)(S:CSt):Nd×CSt:=condR (Za t 0) (ckT F (Za t 0)) S
theorem Wof(h:t.kids.length=2)(h1:(Za t 1).kind=10):forR t (ckX F t) S=(annT t ((cndA F t S).1::(restA F t (cndA F t S).2 1).1) ty0,(restA F t (cndA F t S).2 1).2):=by
 unfold forR cndA;rw [Xx (show 0<t.kids.length by omega),Xx (show 1<t.kids.length by omega)];show _=(annT t (_::([]++[(bif decide ((Za t 1).kind=9) then (clnT (Za t 1),_) else (ckT F (Za t 1)).st _).1])) ty0,(bif decide ((Za t 1).kind=9) then (clnT (Za t 1),_) else (ckT F (Za t 1)).st _).2);rw [h1];show _=(annT t (_::([]++[((ckT F (Za t 1)).st _).1])) ty0,((ckT F (Za t 1)).st _).2);rw [Ukd h1];rfl
theorem Zwg(h:t.kids.length=3)(h1:(Za t 1).kind=10)(h2:(Za t 2).kind=10∨(Za t 2).kind=18∨(Za t 2).kind=9):ifR t (ckX F t) S=(annT t ((cndA F t S).1::(restA F t (cndA F t S).2 2).1) ty0,(restA F t (cndA F t S).2 2).2):=by
 unfold ifR cndA;rw [Xx (show 0<t.kids.length by omega),Xx (show 1<t.kids.length by omega),Xx (show 2<t.kids.length by omega)]
 have e1:∀ T,restA F t T 1=([((ckT F (Za t 1)).blk T).1],((ckT F (Za t 1)).blk T).2):=fun T=>by
  show (([]++[(bif decide ((Za t 1).kind=9) then (clnT (Za t 1),T) else (ckT F (Za t 1)).st T).1]:List Nd),(bif decide ((Za t 1).kind=9) then (clnT (Za t 1),T) else (ckT F (Za t 1)).st T).2)=_;rw [h1];show (([]++[((ckT F (Za t 1)).st T).1]:List Nd),((ckT F (Za t 1)).st T).2)=_;rw [Ukd h1];rfl
 have e2:∀ T,restA F t T 2=([((ckT F (Za t 1)).blk T).1,(bif decide ((Za t 2).kind=9) then (clnT (Za t 2),((ckT F (Za t 1)).blk T).2) else (ckT F (Za t 2)).st ((ckT F (Za t 1)).blk T).2).1],(bif decide ((Za t 2).kind=9) then (clnT (Za t 2),((ckT F (Za t 1)).blk T).2) else (ckT F (Za t 2)).st ((ckT F (Za t 1)).blk T).2).2):=fun T=>by rw [restA,e1];rfl
 rw [e2];rcases h2 with q|q|q;rw [q];show (annT t [_,_,((ckT F (Za t 2)).blk _).1] ty0,((ckT F (Za t 2)).blk _).2)=(annT t [_,_,((ckT F (Za t 2)).st _).1] ty0,((ckT F (Za t 2)).st _).2);rw [Ukd q];rw [q];show (annT t [_,_,((ckT F (Za t 2)).ifs _).1] ty0,((ckT F (Za t 2)).ifs _).2)=(annT t [_,_,((ckT F (Za t 2)).st _).1] ty0,((ckT F (Za t 2)).st _).2);rw [st_18' q];rw [q];rfl
def retA(F t:Nd)(S:CSt):Nat→List Nd×CSt
 | 0=>([],S)
 | i+1=>((retA F t S i).1++[((ckT F (Za t i)).ex (retA F t S i).2).1],failU (Vg S.result ((ckT F (Za t i)).ex (retA F t S i).2).1.ty) (Za t i).pos 7 ((ckT F (Za t i)).ex (retA F t S i).2).2)
theorem ret_A(h:t.kids.length≤1):retR t (ckX F t) S=(annT t (retA F t (failU (!Aja (decide ((t.kids.length:Int)=1)) (!tyEqB S.result ty0)) t.pos 7 S) t.kids.length).1 ty0,(retA F t (failU (!Aja (decide ((t.kids.length:Int)=1)) (!tyEqB S.result ty0)) t.pos 7 S) t.kids.length).2):=by
 unfold retR;have h2:t.kids.length=0∨t.kids.length=1:=by omega
 rcases h2 with q|q;rw [q];rfl;rw [q,Xx (show 0<t.kids.length by omega)];have hs:=((Uh F (Za t 0)).ex (failU (!Aja (decide (((1:Nat):Int)=1)) (!tyEqB S.result ty0)) t.pos 7 S)).result;show (annT t [_] ty0,failU (Vg ((ckT F (Za t 0)).ex _).2.result _) _ _ _)=(annT t ([]++[_]) ty0,failU (Vg (failU _ _ _ S).result _) _ _ _);rw [hs];rfl
theorem Uld(F t:Nd)(S:CSt):∀ i,(retA F t S i).1.length=i
 | 0=>rfl
 | i+1=>by
  show ((retA F t S i).1++[_]).length=_;rw [Aia,Uld F t S i];rfl
theorem Zze(F t:Nd)(S:CSt)(i:Nat):∀ k,Er (retA F t S i).2 (retA F t S (i+k)).2
 | 0=>Er.refl _
 | k+1=>(Zze F t S i k).trans (((Uh F _).ex _).e.failu _ _ _)
theorem Umd(t:Nd)(x:Nat→Ck)(S:CSt):∀ i,(selA t x S i).1.length=i
 | 0=>rfl
 | i+1=>by
  show ((selA t x S i).1++[_]).length=_;rw [Aia,Umd t x S i];rfl
end
section
variable {F t:Nd} {x:Nat→Ck} {S:CSt}
theorem er_v0(Z:∀ i,CkS (x i) (cN t i)):Er (localS F (Za t 0) S) (varR F t x S).2:=by
 unfold varR;dsimp only;refine Er.decl ?_ _ _ _;cases decide ((Za t 1).kind=9);exact ((Z 1).ex _).e.failu _ _ _;exact Er.refl _
theorem Wce{k:Nd}(h:noneB k=true∨exprB k=true)(h9:k.kind=9):k.kids=[]:=h.elim (fun q=>Ana.1 (Vy q).2.2) fun q=>absurd h9 (Zab q)
theorem Wpf(h:(Za t 1).kind=9)(hk:(Za t 1).kids=[])(eL:localS F (Za t 0) S=S):varR F t x S=(dclT t [plainT (Za t 0),plainT (Za t 1)] (declN S),declS t.text (ofF (Za t 0)).1 t.pos S):=by
 unfold varR;dsimp only;rw [Jyg h,eL,Jaa hk];rfl
theorem Wqf(h:(Za t 1).kind≠9)(eL:localS F (Za t 0) S=S)(hx:x 1=ckT F (Za t 1)):varR F t x S=(dclT t [plainT (Za t 0),((ckT F (Za t 1)).ex S).1] (declN (failU (Vg (ofF (Za t 0)).1 ((ckT F (Za t 1)).ex S).1.ty) (Za t 1).pos 7 ((ckT F (Za t 1)).ex S).2)),declS t.text (ofF (Za t 0)).1 t.pos (failU (Vg (ofF (Za t 0)).1 ((ckT F (Za t 1)).ex S).1.ty) (Za t 1).pos 7 ((ckT F (Za t 1)).ex S).2)):=by
 unfold varR;dsimp only;rw [Jxg h,eL,hx];rfl
end
theorem Uea(F t:Nd):Fx (ckT F t).ex:=⟨fun S hs hc=>(Uhc F t).ex S hs hc,fun S=>((Uh F t).ex S).scope⟩
theorem Xtd{k:Nd}(h:blockB k=true):stmtB k=true:=by
 unfold blockB at h;unfold stmtB;simp only [Aca,Zah] at h;rw [h.1,h.2];rfl
theorem Xzg{k:Nd}(h:ifB k=true):stmtB k=true:=by
 unfold ifB at h;unfold stmtB;simp only [Aca,Zah] at h;rw [h.1,h.2];rfl
theorem st_rest'{F t:Nd}{S:CSt}(hx:stmtB t=true)(h:t.kind=18∨t.kind=19):(2≤t.kids.length∧t.kids.length≤3)∧(noneB (Za t 0)=true∨exprB (Za t 0)=true)∧(∀ i,i+1<t.kids.length→((Za t (i+1)).kind=9→(Za t (i+1)).kids=[])∧((Za t (i+1)).kind≠9→stmtB (Za t (i+1))=true))∧
 (ckT F t).st S=(annT t ((cndA F t S).1::(restA F t (cndA F t S).2 (t.kids.length-1)).1) ty0,(restA F t (cndA F t S).2 (t.kids.length-1)).2):=by
 rcases h with h|h;obtain ⟨hl,h0,h1,h2⟩:=sh18 (sh18s h hx)
 have k2:(Za t 2).kind=10∨(Za t 2).kind=18∨(Za t 2).kind=9:=by
  rcases h2 with q|q|q;exact .inl (Uu q);exact .inr (.inl (Zch (Aea.1 q).1));exact .inr (.inr (Vy q).1)
 refine ⟨O,.inr h0,fun i hi=>?_,?_⟩;have hi:i=0∨i=1:=by omega
 rcases hi with q|q <;> subst q
 exact ⟨fun q=>(by rw [Uu h1] at q;cases q),fun _=>Xtd h1⟩;refine ⟨fun q=>?_,fun q=>?_⟩;rcases h2 with z|z|z;rw [Uu z] at q;cases q;rw [show (Za t 2).kind=18 from Zch (Aea.1 z).1] at q;cases q;exact Ana.1 (Vy z).2.2;rcases h2 with z|z|z;exact Xtd z;exact Xzg z;exact absurd (Vy z).1 q;rw [st_18 h,Zwg hl (Uu h1) k2,hl];obtain ⟨hl,h0,h1⟩:=sh19 h hx;refine ⟨O,h0,fun i hi=>?_,?_⟩;have hi:i=0:=by omega
 subst hi;exact ⟨fun q=>(by rw [Uu h1] at q;cases q),fun _=>Xtd h1⟩;rw [st_19 h,Wof hl (Uu h1),hl]
section
variable {F t:Nd} {S:CSt}
theorem Ufg(hs:Sc S):Vs S (cndA F t S).2:=by
 unfold cndA condR;cases decide ((Za t 0).kind=9);exact ((Jma F _).ex S hs).failu _ _ _;exact Vs.refl S
theorem Zxg(h:0<t.kids.length):Stp (sC t 1) S (cndA F t S).2:=by
 have e:sC t 1=count (Za t 0):=by
  have:=Xya h;show 0+cN t 0=_;omega
 unfold cndA condR;cases decide ((Za t 0).kind=9);rw [e];exact ((Uh F _).ex S).failu _ _ _;exact (Stp.refl S).mono (Aha _)
theorem Wrf(h:(Za t 0).kind=9):cndA F t S=(clnT (Za t 0),S):=by unfold cndA condR;rw [Jyg h];rfl
theorem Wsf(h:(Za t 0).kind≠9):cndA F t S=(((ckT F (Za t 0)).ex S).1,wantS ((ckT F (Za t 0)).ex S).1 2 (Za t 0).pos ((ckT F (Za t 0)).ex S).2):=by unfold cndA condR;rw [Jxg h];rfl
theorem Und{T:CSt}(hs:Sc T)(hc:CanV T):∀ i,Sc (restA F t T i).2∧CanV (restA F t T i).2
 | 0=>⟨hs,hc⟩
 | i+1=>by
  obtain ⟨h1,h2⟩:=Und hs hc i;show Sc (bif decide ((Za t (i+1)).kind=9) then (clnT (Za t (i+1)),(restA F t T i).2) else (ckT F (Za t (i+1))).st (restA F t T i).2).2∧CanV (bif decide ((Za t (i+1)).kind=9) then (clnT (Za t (i+1)),(restA F t T i).2) else (ckT F (Za t (i+1))).st (restA F t T i).2).2;cases decide ((Za t (i+1)).kind=9);exact ⟨((Jma F _).st _ h1).sc h1,(Uhc F _).st _ h1 h2⟩;exact ⟨h1,h2⟩
theorem Uod{T:CSt}(h:Stp (sC t 1) S T):∀ i,i+1≤t.kids.length→Stp (sC t (i+1)) S (restA F t T i).2
 | 0,_=>h
 | i+1,hi=>by
  have ih:=Uod h i O;have e:sC t (i+2)=sC t (i+1)+cN t (i+1):=rfl;rw [e];refine ih.trans ?_;show Stp (cN t (i+1)) _ (bif decide ((Za t (i+1)).kind=9) then (clnT (Za t (i+1)),(restA F t T i).2) else (ckT F (Za t (i+1))).st (restA F t T i).2).2;cases decide ((Za t (i+1)).kind=9);rw [Xya (show i+1<t.kids.length by omega)];exact (Uh F _).st _;exact (Stp.refl _).mono (Aha _)
theorem Zcd{T:CSt}{i:Nat}(h:(Za t (i+1)).kind=9):restA F t T (i+1)=((restA F t T i).1++[clnT (Za t (i+1))],(restA F t T i).2):=by rw [restA,Jyg h];rfl
theorem Zdd{T:CSt}{i:Nat}(h:(Za t (i+1)).kind≠9):restA F t T (i+1)=((restA F t T i).1++[((ckT F (Za t (i+1))).st (restA F t T i).2).1],((ckT F (Za t (i+1))).st (restA F t T i).2).2):=by rw [restA,Jxg h];rfl
theorem Wde{T:CSt}(hs:Sc T)(hc:CanV T):∀ i,Vs T (retA F t T i).2
 | 0=>Vs.refl T
 | i+1=>by
  have h:=Wde hs hc i;exact (h.trans ((Jma F _).ex _ (h.sc hs))).failu _ _ _
theorem Wee{T:CSt}(h:Stp 0 S T):∀ i,i≤t.kids.length→Stp (sC t i) S (retA F t T i).2
 | 0,_=>h
 | i+1,hi=>by
  have ih:=Wee h i O;have e:sC t (i+1)=sC t i+cN t i:=rfl;rw [e,Xya (show i<t.kids.length by omega)];exact (ih.trans ((Uh F _).ex _)).failu _ _ _
theorem Zyg(hs:Sc S)(hc:CanV S)(i:Nat):CanV (selA t (ckX F t) S i).2.2:=(Yxb (Ywa F t) hs i).can hc
theorem Wtf{i:Nat}(h:i<t.kids.length):selA t (ckX F t) S (i+1)=((selA t (ckX F t) S i).1++[((ckT F (Za t i)).cas (selA t (ckX F t) S i).2.1 (selA t (ckX F t) S i).2.2).1],(selA t (ckX F t) S i).2.1 && !decide ((Za (Za t i) 0).kind=9),((ckT F (Za t i)).cas (selA t (ckX F t) S i).2.1 (selA t (ckX F t) S i).2.2).2):=by rw [selA,Xx h]
end
theorem Wag{n:Nat}(h:n≤1)(b:Bool):(!Aja (decide ((n:Int)=1)) b)=(decide ((0:Int)<n) == b):=by
 have h2:n=0∨n=1:=by omega
 rcases h2 with q|q <;> subst q <;> cases b <;> rfl
theorem PK.res{F:Nd}{n0 b:Nat}{TB X:List Nat}{r0:List Ty}{S:CSt}{fv:Da}{ms mg mn mf:Nat}{pv:Nat→Da}{sv cv rv:Da}{vs:List Da}{sc:List (List Vr)}{w:Aa}(h:PK F n0 b TB X (some r0) S fv ms mg mn mf pv sv cv rv vs sc w):∃ k c,rv = .slice (some ⟨k,0,none⟩) (r0.length+1) c∧r0.length≤1000000000+r0.length∧RowAt w k (0+r0.length*2) (tyCells S.result):=by
 have hl:(r0++[S.result]).length=r0.length+1:=by rw [Aia];rfl
 have ro:w.ownsRow n0 24 2 rv (r0++[S.result]).length ((r0++[S.result]).flatMap tyCells):=h.ro;obtain ⟨k,c,hv,_,hR,_⟩:=Jja ro O;rw [hl] at hv;refine ⟨k,c,hv,O,?_⟩;have:=Zcc (f:=tyCells) (z:=2) Yea hR (i:=r0.length) O;simpa using this
theorem ChM.to{F t:Nd}(H:ChM F t)(first:Bool){n0 b:Nat}{TB X:List Nat}{r0:List Ty}{S:CSt}{w:Aa}{v:Da}{N m0:Nat}(Z:List Nat)(h:PC F n0 b TB X (some r0) S w)(he:S.ee=0)(hc:CanV S)(hk:Kd w (fun k=>k<n0) t.kids v)(hb:Bd S N)(hn:N+count t≤1000000)(hZ:∀ j∈Z,j<w.heap.size)(hm:m0≤w.heap.size) :
 RetP PP 115 #[.pointer (some ⟨b,0,none⟩),ndV t v,.bool (!first)] w (fun r w'=>(∃ p c,r=ndV ((ckT F t).cas first S).1 (.slice p ((ckT F t).cas first S).1.kids.length c)∧m0≤w.heap.size∧KdX w.heap.size Z w' ((ckT F t).cas first S).1.kids (.slice p ((ckT F t).cas first S).1.kids.length c))∧((ckT F t).cas first S).2.ee=0∧PC F n0 b TB X (some r0) ((ckT F t).cas first S).2 w'∧GT (mutC X) n0 w w') (Bad n0 b X (S.scope+1) ((ckT F t).cas first S).2 w) :=
 (H first h he hc hk hb hn).mono (fun r w' hr=>by
 obtain ⟨h0,⟨p,c,e,k⟩,h1,h2⟩:=hr;exact ⟨⟨p,c,e,hm,KdN.x k hZ⟩,h0,h1,h2⟩) fun _ _ h=>h
theorem Wuf{F t:Nd}(hx:stmtB t=true)(KE:∀ i,i<t.kids.length→exprB (Za t i)=true→CxM 1000000 F 113 (Za t i) (ckT F (Za t i)).ex)(KT:∀ i,i<t.kids.length→stmtB (Za t i)=true→CxM 1000000 F 87 (Za t i) (ckT F (Za t i)).st)
    (KC : ∀ i, i < t.kids.length → Xga (Za t i) = true → ChM F (Za t i)) (KB : blockB t = true → CxM 1000000 F 116 t (ckT F t).blk) : CxM 1000000 F 87 t (ckT F t).st := by
  intro n0 b TB X r0 S w v N h he hc hkw hb hn
  obtain ⟨p, c, rfl, hcap, _⟩ := id hkw
  have hk0 := hkw
  have hlt := h.lt
  have htb := h.tb
  have hs := h.scs
  have htb2 : ∀ j ∈ TB, j < w.heap.size := fun j hj => htb.2 j (htb.1 j hj)
  have hcS : ∀ i, i < t.kids.length → sC t i + count (Za t i) + 1 ≤ count t := fun i hi => by
    have h1 := Uca t (i + 1)
    have h2 := Xya hi
    have h3 : sC t (i + 1) = sC t i + cN t i := rfl
    omega
  have hcX : ∀ i, i < t.kids.length → ckX F t i = ckT F (Za t i) := fun i hi => Xx hi
  have hkl := Wu t
  have g := GT.refl (mutC X) n0 w
  refine Vd (m := 340) Tryz.func87 J J [(0, True, _), (1, True, _)] (Zb J (Zb J (Zq _))) ?_
  refine BM fun b3 _ ga _ g E => ?_
  have hp3 := h
  have h := Ui h
  have hk0 := Ui hk0
  refine AN fun b4 _ ga _ g E => ?_
  have hp4 := h
  have h := Ui h
  have hk0 := Ui hk0
  refine AU ?_
  refine CL (Jr t _ _ _) ?_
  rintro _ _ ⟨rfl, ga⟩
  refine RC fun g E => ?_
  have h := Uk h
  have hk0 := Uk hk0
  refine AN fun b5 _ ga _ g E => ?_
  have hp5 := h
  have h := Ui h
  have hk0 := Ui hk0
  refine AS fun wS1 ga Ca g E => ?_
  first | have h := h.keep ga Ca (by omega) (.inl rfl) | have h := h.keep ga Ca (by omega) (.inr ⟨by simp, fun hm => by have := htb2 _ hm; omega⟩)
  have hk0 := Ud hk0
  refine AU ?_
  refine Zz J (fun _ => Jfb (aq0) (aqc J aq0)) ?_
  have hO := Yxa [b3, b4, b5] w.heap.size wS1
  refine IF (fun h1 => ?_) fun h1 => ?_
  · replace h1 : t.kind = 6 := Zch h1
    obtain ⟨_, hl, z0, z1⟩ := sh6 (sh6s h1 hx)
    have ef := st_6 (F := F) (S := S) h1
    have hc0 := hcS 0 (by omega)
    have hc1 := hcS 1 (by omega)
    have hx1 := hcX 1 (by omega)
    have hk0c := Wu (Za t 0)
    obtain ⟨hpe, p_30, c_30, hcell, hkid⟩ := Yr hk0 (i := 0) (by omega)
    refine AU ?_
    refine Y2 J Jw J J (Xdc (Za t 0) _ _ h he (by omega)) ((fun ch w' hz => Bad.pass hz (by rw [ef]; exact er_v0 (Xeb F t)) (Aaa _) g)) ?_
    rintro _ _ ⟨rfl, eL, ga⟩
    refine RC fun g E => ?_
    have h := Uk h
    have hk0 := Uk hk0
    have hO := Uk hO
    have hcell := Uk hcell
    have hkid := Uk hkid
    refine Yt J Yz J ?_
    intro b7 w7 N7
    have l7 := Wc N7 g.size
    have hp7 := h
    have hOp7 := hO
    have g := gtg g N7.g
    have h := h.grow (N7.g)
    have hk0 := hk0.grow (N7.g)
    have hO := hO.grow (N7.g)
    have hcell := hcell.grow (N7.g)
    have hkid := hkid.grow (N7.g)
    replace E := E.new N7
    have h := hp7.addX N7
    have hO := Yxa [b3, b4, b5, b7] w.heap.size w7
    refine AS fun _ ga Ca g E => ?_
    first | have h := h.keep ga Ca (by omega) (.inl rfl) | have h := h.keep ga Ca (by omega) (.inr ⟨by simp, fun hm => by have := htb2 _ hm; omega⟩)
    have hk0 := Ud hk0
    have hO := Ua hO
    have hkid := Ud hkid
    obtain ⟨hpe, p_36, c_36, hcell, hkid⟩ := Yr hk0 (i := 0) (by omega)
    refine AU ?_
    refine CL (Js (Za t 0) _ _ _ [b3, b4, b5, b7] hkid (by omega) (E.ltm (by simp [selB])) g.size) ?_
    rintro _ _ ⟨⟨p38, c38, rfl, q38, k38⟩, ga⟩
    refine RC fun g E => ?_
    have h := Uk h
    have hk0 := Uk hk0
    have hO := Uk hO
    have hcell := Uk hcell
    have hkid := Uk hkid
    refine Ya _ J Zd Zp (pqc J pq0) J J ?_
    intro b39 w39 N39
    have l39 := Wc N39 g.size
    have hp39 := h
    have hOp39 := hO
    have k38 := k38.new N39
    have B39 := N39.blk
    have g := gtg g N39.g
    replace E := E.grow N39.g
    have h := h.grow (N39.g)
    have hk0 := hk0.grow (N39.g)
    have hO := hO.grow (N39.g)
    have hcell := hcell.grow (N39.g)
    have hkid := hkid.grow (N39.g)
    have hOo := hO
    refine Xe J (Zy Ye (Zc J) (aqc J aq0) J) (Qi E.g1 hO (by simp) B39.row (Vo k38 q38 (by intro j hj; simp at hj ⊢ <;> omega) (fun j hj => by cases hj)) (by simp <;> omega) (by have := g.size; omega) ⟨by have := g.size; omega, fun hm => Aba _ (E.ltm (by simp [selB]) _ hm)⟩) ?_
    rintro v40 w40 ⟨rfl, a40, c40, z40, hO, hgA40, hgB40, BM40, BN40⟩
    refine ⟨nw1, ?_⟩
    replace E := E.keepX hgA40 hOo.ne (by simp [selB])
    replace E := E.s1 hgB40 BN40
    have g := Wx g hgA40 (fun k hk => hOo.ge k hk)
    have g := Yb g hgB40 (by omega)
    have h := h.keepO hgA40 hOo (by omega)
    have h := h.keep hgB40 BM40 (by omega) (.inl rfl)
    have hk0 := hk0.keep hgA40 (fun k hk _ e => by have := hOo.ge k e.symm; omega)
    have hk0 := hk0.keep hgB40 (fun k hk _ e => by injection e with e; omega)
    have hkid := hkid.keep hgA40 (fun k hk _ e => by have := hOo.ge k e.symm; omega)
    have hkid := hkid.keep hgB40 (fun k hk _ e => by injection e with e; omega)
    obtain ⟨hpe, p_43, c_43, hcell, hkid⟩ := Yr hk0 (i := 1) (by omega)
    refine IF (fun h2 => ?_) fun h2 => ?_
    · replace h2 : (Za t 1).kind = 9 := Zch h2
      have ef2 := ef.trans (Wpf h2 (Wce z1 h2) eL)
      obtain ⟨hpe, p_50, c_50, hcell, hkid⟩ := Yr hk0 (i := 1) (by omega)
      refine AU ?_
      have hOlt := hO.lt
      refine CL (Js (Za t 1) _ _ _ [b3, b4, b5, b7] hkid (by omega) (E.ltm (by simp [selB])) g.size) ?_
      rintro _ _ ⟨⟨p52, c52, rfl, q52, k52⟩, ga⟩
      refine RC fun g E => ?_
      have h := Uk h
      have hO := Uk hO
      refine Ya _ J Zd Zp (pqc J pq0) J J ?_
      intro b53 w53 N53
      have l53 := Wc N53 g.size
      have hp53 := h
      have hOp53 := hO
      have k52 := k52.new N53
      have B53 := N53.blk
      have g := gtg g N53.g
      replace E := E.grow N53.g
      have h := h.grow (N53.g)
      have hO := hO.grow (N53.g)
      have hOo := hO
      refine Xe J (Zy Ye (Zc J) (aqc J aq0) J) (Qi E.g1 hO (by simp) B53.row (Vo k52 q52 (by intro j hj; simp at hj ⊢ <;> omega) (fun j hj => .inr (hOlt j hj))) (by simp <;> omega) (by have := g.size; omega) ⟨by have := g.size; omega, fun hm => Aba _ (E.ltm (by simp [selB]) _ hm)⟩) ?_
      rintro v54 w54 ⟨rfl, a54, c54, z54, hO, hgA54, hgB54, BM54, BN54⟩
      refine ⟨nw1, ?_⟩
      replace E := E.keepX hgA54 hOo.ne (by simp [selB])
      replace E := E.s1 hgB54 BN54
      have g := Wx g hgA54 (fun k hk => hOo.ge k hk)
      have g := Yb g hgB54 (by omega)
      have h := h.keepO hgA54 hOo (by omega)
      have h := h.keep hgB54 BM54 (by omega) (.inl rfl)
      refine AU ?_
      refine Y3 J Uw J J J (Joa (clnT t) _ _ _ (ofF (Za t 0)).1 h he hb (by omega)) ((fun ch w' hz => Bad.pass hz (by rw [ef2]; exact Er.refl _) (by first | exact Aaa _ | (rw [hsT]; exact Aaa _)) g)) ?_
      rintro v68 w68 ⟨he68, rfl, h, g68⟩
      refine ⟨nw1, ?_⟩
      have g := gtw g g68
      replace E := E.gtx g68
      have hO := hO.gt g68 rfl
      refine AS fun _ ga Ca g E => ?_
      first | have h := h.keep ga Ca (by omega) (.inl rfl) | have h := h.keep ga Ca (by omega) (.inr ⟨by simp, fun hm => by have := htb2 _ hm; omega⟩)
      have hO := Ua hO
      refine RTN ?_
      rw [ef2]; exact ⟨he68, Xh (t := dclT t [_, _] _) rfl hO.kd, h.sub htb.1 (by intro j hj; simp [hj]), g⟩
    replace h2 : (Za t 1).kind ≠ 9 := Zdh h2
    have z1 := z1.resolve_left fun q => h2 (Vy q).1
    have ef1 := ef.trans (Wqf h2 eL hx1)
    refine Yx (rowR none) [3, 3, 3, 0, 3, 0, 0, 2, 1, 2] [0, 0, 0, 4, 12, 28, 0, 126, 254, 511] mix (by kernel_rfl) [0, 1, 2, 3, 4, 5, 6, 7, 8, 9] J ?_
    have g := gtd g
    replace E := E.dr
    have h := h.grow (G.drew _)
    have hk0 := hk0.grow (G.drew _)
    have hO := hO.grow (G.drew _)
    have hcell := hcell.grow (G.drew _)
    have hkid := hkid.grow (G.drew _)
    refine Zr 0 J J (fun _ => Zw (Zc J)) (Zr 1 J J (fun _ => Zw (Zc J)) (Zr 2 J J (fun _ => Zh Zg (Zc J)) (Yg 3 J J (fun w1 hx => Zt Zi (Zc J) (fun _ => (E.g3.keep hx (fun h => nomatch h)).at_ J)) (?_))))
    obtain ⟨hpe, p_59, c_59, hcell, hkid⟩ := Yr hk0 (i := 1) (by omega)
    refine Zr 4 J J (fun _ => Xr Zd (Zc J) Xv (fun _ => by omega) (fun _ => hpe)) (Yg 5 J J (fun w1 hx => Zo Zf (Zc J) J (fun _ => hcell.kn hx)) (Yg 6 J J (fun w1 hx => Zo Zj (Zc J) J (fun _ => (E.g0.keep hx (fun h => nomatch h)).row)) (Zm 7 J J ?_)))
    refine Ys (L' := [8, 9]) [3, 3, 3, 0, 3, 0, 0, 2, 1, 2] J J J J ?_
    have hOlt := hO.lt
    refine Y3 J Qc J J J (Yzb (KE 1 (by omega) z1) (Uea F _) (ofF (Za t 0)).1 [b3, b4, b5, b7] h he hc hkid hb (by omega) (E.ltm (by simp [selB])) g.size) ((fun ch w' hz => Bad.pass hz (by rw [ef1]; exact (Er.refl _).decl _ _ _) (Aaa _) g)) ?_
    rintro v62 w62 ⟨⟨p62, c62, rfl, q62, k62⟩, he62, eW, h, g62⟩
    refine ⟨nw1, ?_⟩
    have g := gtw g g62
    replace E := E.gtx g62
    have hO := hO.gt g62 rfl
    rw [eW] at he62
    have ef2 := ef1
    rw [eW] at ef2
    have he := he62
    have hsT := ((Uh F (Za t 1)).ex S).scope
    have hb := ((Uh F (Za t 1)).ex S).bd _ hb
    refine Xm ?_
    refine Zm 8 J J ?_
    refine Zl (L' := [9]) [3, 3, 3, 0, 3, 0, 0, 2, 1, 2] J J J ?_
    refine Ya _ J Zd Zp (pqc J pq0) J J ?_
    intro b63 w63 N63
    have l63 := Wc N63 g.size
    have hp63 := h
    have hOp63 := hO
    have k62 := k62.new N63
    have B63 := N63.blk
    have g := gtg g N63.g
    replace E := E.grow N63.g
    have h := h.grow (N63.g)
    have hO := hO.grow (N63.g)
    refine Zs ((N63.g).only _) ?_
    refine Zm 9 J J ?_
    refine Ys (L' := []) [3, 3, 3, 0, 3, 0, 0, 2, 1, 2] J J J J ?_
    have hOo := hO
    refine Xe J (Zy Ye (Zc J) (aqc J aq0) J) (Qi E.g1 hO (by simp) B63.row (Vo k62 q62 (by intro j hj; simp at hj ⊢ <;> omega) (fun j hj => .inr (hOlt j hj))) (by simp <;> omega) (by have := g.size; omega) ⟨by have := g.size; omega, fun hm => Aba _ (E.ltm (by simp [selB]) _ hm)⟩) ?_
    rintro v64 w64 ⟨rfl, a64, c64, z64, hO, hgA64, hgB64, BM64, BN64⟩
    refine ⟨nw1, ?_⟩
    replace E := E.keepX hgA64 hOo.ne (by simp [selB])
    replace E := E.s1 hgB64 BN64
    have g := Wx g hgA64 (fun k hk => hOo.ge k hk)
    have g := Yb g hgB64 (by omega)
    have h := h.keepO hgA64 hOo (by omega)
    have h := h.keep hgB64 BM64 (by omega) (.inl rfl)
    refine Xm ?_
    refine TK [0, 4, 5, 7] ?_
    refine AU ?_
    refine Y3 J Uw J J J (Joa (clnT t) _ _ _ (ofF (Za t 0)).1 h he hb (by omega)) ((fun ch w' hz => Bad.pass hz (by rw [ef2]; exact Er.refl _) (by first | exact Aaa _ | (rw [hsT]; exact Aaa _)) g)) ?_
    rintro v68 w68 ⟨he68, rfl, h, g68⟩
    refine ⟨nw1, ?_⟩
    have g := gtw g g68
    replace E := E.gtx g68
    have hO := hO.gt g68 rfl
    refine AS fun _ ga Ca g E => ?_
    first | have h := h.keep ga Ca (by omega) (.inl rfl) | have h := h.keep ga Ca (by omega) (.inr ⟨by simp, fun hm => by have := htb2 _ hm; omega⟩)
    have hO := Ua hO
    refine RTN ?_
    rw [ef2]; exact ⟨he68, Xh (t := dclT t [_, _] _) rfl hO.kd, h.sub htb.1 (by intro j hj; simp [hj]), g⟩
  replace h1 : t.kind ≠ 6 := Zdh h1
  refine IF (fun h3 => ?_) fun h3 => ?_
  · replace h3 : t.kind = 11 := Zch h3
    obtain ⟨_, hl, z0⟩ := sh11 h3 hx
    have ef := st_11 (F := F) (S := S) h3
    have hc0 := hcS 0 (by omega)
    have hx0 := hcX 0 (by omega)
    unfold defR at ef
    dsimp only at ef
    rw [hx0] at ef
    have hsT := ((Uh F (Za t 0)).ex S).scope
    obtain ⟨hpe, p_74, c_74, hcell, hkid⟩ := Yr hk0 (i := 0) (by omega)
    refine AU ?_
    refine Y2 J Xj J J (CxM.to (KE 0 (by omega) z0) [b3, b4, b5] h he hc hkid hb (by omega) (E.ltm (by simp [selB])) g.size) ((fun ch w' hz => Bad.pass hz (by rw [ef]; exact ((Er.refl _).failu _ _ _).decl _ _ _) (Aaa _) g)) ?_
    rintro v76 w76 ⟨⟨p76, c76, rfl, q76, k76⟩, he76, h, g76⟩
    refine ⟨nw1, ?_⟩
    have g := gtw g g76
    replace E := E.gtx g76
    have hO := hO.gt g76 rfl
    have hkid := hkid.gt g76 (fun k h => h)
    have hk0 := hk0.gt g76 (fun k h => h)
    have hb := ((Uh F (Za t 0)).ex S).bd _ hb
    refine Yt J Zp J ?_
    intro b8 w8 N8
    have l8 := Wc N8 g.size
    have hp8 := h
    have hOp8 := hO
    have k76 := k76.new N8
    have g := gtg g N8.g
    have h := h.grow (N8.g)
    have hk0 := hk0.grow (N8.g)
    have hO := hO.grow (N8.g)
    have hkid := hkid.grow (N8.g)
    replace E := E.new N8
    have hO := Yxa [b3, b4, b5, b8] w.heap.size w8
    refine AS fun _ ga Ca g E => ?_
    first | have h := h.keep ga Ca (by omega) (.inl rfl) | have h := h.keep ga Ca (by omega) (.inr ⟨by simp, fun hm => by have := htb2 _ hm; omega⟩)
    have hk0 := Ud hk0
    have hO := Ua hO
    have hkid := Ud hkid
    have k76 := k76.keep ga (by first | exact .inl (by omega) | exact .inr (by simp))
    refine AU ?_
    refine Yx (rowR none) [3, 0, 1, 3, 0, 3, 3, 0, 1] [0, 1, 3, 0, 8, 24, 56, 120, 255] mix (by kernel_rfl) [0, 1, 2, 3, 4, 5, 6, 7, 8] J ?_
    have g := gtd g
    replace E := E.dr
    have h := h.grow (G.drew _)
    have hk0 := hk0.grow (G.drew _)
    have hO := hO.grow (G.drew _)
    have hcell := hcell.grow (G.drew _)
    have hkid := hkid.grow (G.drew _)
    have k76 := k76.grow (G.drew _)
    refine Zr 0 J J (fun _ => Zh Yh (Zc J)) (Yg 1 J J (fun w1 hx => Zo Zj (Zc J) J (fun _ => (E.g0.keep hx (fun h => nomatch h)).row.part 5 2)) (Zr 3 J J (fun _ => Zh Zg (Zc J)) (Yg 4 J J (fun w1 hx => Zt Zi (Zc J) (fun _ => (E.g3.keep hx (fun h => nomatch h)).at_ J)) (?_))))
    obtain ⟨hpe, p_82, c_82, hcell, hkid⟩ := Yr hk0 (i := 0) (by omega)
    refine Zr 5 J J (fun _ => Xr Zd (Zc J) Xv (fun _ => by omega) (fun _ => hpe)) (Zr 6 J J (fun _ => Zh Xp (Zc J)) (Yg 7 J J (fun w1 hx => Zt Yf (Zc J) (fun _ => (hcell.kn hx).one (i := 3) J)) (Zm 2 J J ?_)))
    refine Zl (L' := [8]) [3, 0, 1, 3, 0, 3, 3, 0, 1] J J J ?_
    refine CP (Wfa ((ckT F (Za t 0)).ex S).1.ty _ h.laid.hL h.laid.hb) (fun w79 g79 => ?_)
    have g := gtg g g79
    replace E := E.grow g79
    have h := h.grow (g79)
    have hO := hO.grow (g79)
    have k76 := k76.grow (g79)
    refine Zs ((g79).only _) ?_
    refine Zm 8 J J ?_
    refine Zl (L' := []) [3, 0, 1, 3, 0, 3, 3, 0, 1] J J J ?_
    refine Y3 J Yd J J J (Wy _ _ _ _) ((fun ch w' hz => Un h he76 (by decide) (by rw [ef]; exact (Er.refl _).decl _ _ _) hz g (by rw [hsT]; exact Aaa _))) ?_
    rintro v85 w85 ⟨rfl, hq85, g85⟩
    refine ⟨fun _ => g85, ?_⟩
    have g := gtg g g85
    replace E := E.grow g85
    have h := h.grow (g85)
    have hO := hO.grow (g85)
    have k76 := k76.grow (g85)
    rw [hq85] at ef
    refine Zs ((g85).only _) ?_
    refine TK [0, 4, 5, 6, 8] ?_
    refine AU ?_
    refine Ya _ J Zd Zp (pqc J pq0) J J ?_
    intro b88 w88 N88
    have l88 := Wc N88 g.size
    have hp88 := h
    have hOp88 := hO
    have k76 := k76.new N88
    have B88 := N88.blk
    have g := gtg g N88.g
    replace E := E.grow N88.g
    have h := h.grow (N88.g)
    have hO := hO.grow (N88.g)
    have hOo := hO
    refine Xe J (Zy Ye (Zc J) (aqc J aq0) J) (Qi E.g1 hO (by simp) B88.row (Vo k76 q76 (by intro j hj; simp at hj ⊢ <;> omega) (fun j hj => by cases hj)) (by simp <;> omega) (by have := g.size; omega) ⟨by have := g.size; omega, fun hm => Aba _ (E.ltm (by simp [selB]) _ hm)⟩) ?_
    rintro v89 w89 ⟨rfl, a89, c89, z89, hO, hgA89, hgB89, BM89, BN89⟩
    refine ⟨nw1, ?_⟩
    replace E := E.keepX hgA89 hOo.ne (by simp [selB])
    replace E := E.s1 hgB89 BN89
    have g := Wx g hgA89 (fun k hk => hOo.ge k hk)
    have g := Yb g hgB89 (by omega)
    have h := h.keepO hgA89 hOo (by omega)
    have h := h.keep hgB89 BM89 (by omega) (.inl rfl)
    refine AU ?_
    refine Y3 J Uw J J J (Joa (clnT t) _ _ _ ((ckT F (Za t 0)).ex S).1.ty h he76 hb (by omega)) ((fun ch w' hz => Bad.pass hz (by rw [ef]; exact Er.refl _) (by rw [hsT]; exact Aaa _) g)) ?_
    rintro v94 w94 ⟨he94, rfl, h, g94⟩
    refine ⟨nw1, ?_⟩
    have g := gtw g g94
    replace E := E.gtx g94
    have hO := hO.gt g94 rfl
    refine AS fun _ ga Ca g E => ?_
    first | have h := h.keep ga Ca (by omega) (.inl rfl) | have h := h.keep ga Ca (by omega) (.inr ⟨by simp, fun hm => by have := htb2 _ hm; omega⟩)
    have hO := Ua hO
    refine RTN ?_
    rw [ef]; exact ⟨he94, Xh (t := dclT t [_] _) rfl hO.kd, h, g⟩
  replace h3 : t.kind ≠ 11 := Zdh h3
  refine IF (fun h4 => ?_) fun h4 => ?_
  · replace h4 : t.kind = 12 := Zch h4
    obtain ⟨hl, z0, z1⟩ := sh12 h4 hx
    have ef := st_12 (F := F) (S := S) h4
    have hc0 := hcS 0 (by omega)
    have hc1 := hcS 1 (by omega)
    have hs1 : sC t 1 = 0 + cN t 0 := rfl
    have hs2 : cN t 0 = count (Za t 0) := Xya (by omega)
    have hx0 := hcX 0 (by omega)
    have hx1 := hcX 1 (by omega)
    unfold asgR at ef
    dsimp only at ef
    rw [hx0, hx1] at ef
    have hst := (Uh F (Za t 0)).ex S
    have hcT := ((Jma F (Za t 0)).ex S hs).can hc
    obtain ⟨hpe, p_100, c_100, hcell, hkid⟩ := Yr hk0 (i := 0) (by omega)
    refine AU ?_
    refine Y2 J Xj J J (CxM.to (KE 0 (by omega) z0) [b3, b4, b5] h he hc hkid hb (by omega) (E.ltm (by simp [selB])) g.size) ((fun ch w' hz => Bad.pass hz (by rw [ef]; exact (((Er.refl _).failu _ _ _).trans ((Uh F (Za t 1)).ex _).e).failu _ _ _) (Aaa _) g)) ?_
    rintro v102 w102 ⟨⟨p102, c102, rfl, q102, k102⟩, he102, h, g102⟩
    refine ⟨nw1, ?_⟩
    have g := gtw g g102
    replace E := E.gtx g102
    have hO := hO.gt g102 rfl
    have hkid := hkid.gt g102 (fun k h => h)
    have hk0 := hk0.gt g102 (fun k h => h)
    have hb := hst.bd _ hb
    refine Yt J Zp J ?_
    intro b9 w9 N9
    have l9 := Wc N9 g.size
    have hp9 := h
    have hOp9 := hO
    have k102 := k102.new N9
    have g := gtg g N9.g
    have h := h.grow (N9.g)
    have hk0 := hk0.grow (N9.g)
    have hO := hO.grow (N9.g)
    have hkid := hkid.grow (N9.g)
    replace E := E.new N9
    have hO := Yxa [b3, b4, b5, b9] w.heap.size w9
    refine AS fun _ ga Ca g E => ?_
    first | have h := h.keep ga Ca (by omega) (.inl rfl) | have h := h.keep ga Ca (by omega) (.inr ⟨by simp, fun hm => by have := htb2 _ hm; omega⟩)
    have hk0 := Ud hk0
    have hO := Ua hO
    have hkid := Ud hkid
    have k102 := k102.keep ga (by first | exact .inl (by omega) | exact .inr (by simp))
    refine AU ?_
    obtain ⟨hpe, p_124, c_124, hcell, hkid⟩ := Yr hk0 (i := 0) (by omega)
    refine AU ?_
    refine Y3 J Yd J J J (Wy _ _ _ _) ((fun ch w' hz => Un h he102 (by decide) (by rw [ef, ← Wnf]; exact ((Uh F (Za t 1)).ex _).e.failu _ _ _) hz g (by rw [hst.scope]; exact Aaa _))) ?_
    rintro _ _ ⟨rfl, hq127, ga⟩
    refine RC fun g E => ?_
    have h := Uk h
    have hk0 := Uk hk0
    have hO := Uk hO
    have hcell := Uk hcell
    have hkid := Uk hkid
    have k102 := Uk k102
    rw [← Wnf, hq127] at ef
    replace ef : (ckT F t).st S = (annT t [((ckT F (Za t 0)).ex S).1, ((ckT F (Za t 1)).ex ((ckT F (Za t 0)).ex S).2).1] ty0, failU (Vg ((ckT F (Za t 0)).ex S).1.ty ((ckT F (Za t 1)).ex ((ckT F (Za t 0)).ex S).2).1.ty) (Za t 1).pos 7 ((ckT F (Za t 1)).ex ((ckT F (Za t 0)).ex S).2).2) := ef
    refine AU ?_
    refine Ya _ J Zd Zp (pqc J pq0) J J ?_
    intro b130 w130 N130
    have l130 := Wc N130 g.size
    have hp130 := h
    have hOp130 := hO
    have k102 := k102.new N130
    have B130 := N130.blk
    have g := gtg g N130.g
    replace E := E.grow N130.g
    have h := h.grow (N130.g)
    have hk0 := hk0.grow (N130.g)
    have hO := hO.grow (N130.g)
    have hcell := hcell.grow (N130.g)
    have hkid := hkid.grow (N130.g)
    have hOo := hO
    refine Xe J (Zy Ye (Zc J) (aqc J aq0) J) (Qi E.g1 hO (by simp) B130.row (Vo k102 q102 (by intro j hj; simp at hj ⊢ <;> omega) (fun j hj => by cases hj)) (by simp <;> omega) (by have := g.size; omega) ⟨by have := g.size; omega, fun hm => Aba _ (E.ltm (by simp [selB]) _ hm)⟩) ?_
    rintro v131 w131 ⟨rfl, a131, c131, z131, hO, hgA131, hgB131, BM131, BN131⟩
    refine ⟨nw1, ?_⟩
    replace E := E.keepX hgA131 hOo.ne (by simp [selB])
    replace E := E.s1 hgB131 BN131
    have g := Wx g hgA131 (fun k hk => hOo.ge k hk)
    have g := Yb g hgB131 (by omega)
    have h := h.keepO hgA131 hOo (by omega)
    have h := h.keep hgB131 BM131 (by omega) (.inl rfl)
    have hk0 := hk0.keep hgA131 (fun k hk _ e => by have := hOo.ge k e.symm; omega)
    have hk0 := hk0.keep hgB131 (fun k hk _ e => by injection e with e; omega)
    have hkid := hkid.keep hgA131 (fun k hk _ e => by have := hOo.ge k e.symm; omega)
    have hkid := hkid.keep hgB131 (fun k hk _ e => by injection e with e; omega)
    refine AU ?_
    refine Yx (rowR none) [3, 3, 3, 0, 3, 0, 3, 0, 2, 1, 2] [0, 0, 0, 4, 12, 28, 0, 64, 254, 510, 1023] mix (by kernel_rfl) [0, 1, 2, 3, 4, 5, 6, 7, 8, 9, 10] J ?_
    have g := gtd g
    replace E := E.dr
    have h := h.grow (G.drew _)
    have hk0 := hk0.grow (G.drew _)
    have hO := hO.grow (G.drew _)
    have hcell := hcell.grow (G.drew _)
    have hkid := hkid.grow (G.drew _)
    refine Zr 0 J J (fun _ => Zw (Zc J)) (Zr 1 J J (fun _ => Zw (Zc J)) (Zr 2 J J (fun _ => Zh Zg (Zc J)) (Yg 3 J J (fun w1 hx => Zt Zi (Zc J) (fun _ => (E.g3.keep hx (fun h => nomatch h)).at_ J)) (?_))))
    obtain ⟨hpe, p_136, c_136, hcell, hkid⟩ := Yr hk0 (i := 1) (by omega)
    refine Zr 4 J J (fun _ => Xr Zd (Zc J) Xv (fun _ => by omega) (fun _ => hpe)) (Yg 5 J J (fun w1 hx => Zo Zf (Zc J) J (fun _ => hcell.kn hx)) (Zr 6 J J (fun _ => Zh Yh (Zc J)) (Yg 7 J J (fun w1 hx => Zo Zj (Zc J) J (fun _ => (E.g0.keep hx (fun h => nomatch h)).row.part 5 2)) (Zm 8 J J ?_))))
    refine Ys (L' := [9, 10]) [3, 3, 3, 0, 3, 0, 3, 0, 2, 1, 2] J J J J ?_
    have hOlt := hO.lt
    refine Y3 J Qc J J J (Yzb (KE 1 (by omega) z1) (Uea F _) ((ckT F (Za t 0)).ex S).1.ty [b3, b4, b5, b9] h he102 hcT hkid hb (by omega) (E.ltm (by simp [selB])) g.size) ((fun ch w' hz => Bad.pass hz (by rw [ef]; exact Er.refl _) (by rw [hst.scope]; exact Aaa _) g)) ?_
    rintro v140 w140 ⟨⟨p140, c140, rfl, q140, k140⟩, he140, eW, h, g140⟩
    refine ⟨nw1, ?_⟩
    have g := gtw g g140
    replace E := E.gtx g140
    have hO := hO.gt g140 rfl
    rw [eW] at he140 ef
    refine Xm ?_
    refine Zm 9 J J ?_
    refine Zl (L' := [10]) [3, 3, 3, 0, 3, 0, 3, 0, 2, 1, 2] J J J ?_
    refine Ya _ J Zd Zp (pqc J pq0) J J ?_
    intro b141 w141 N141
    have l141 := Wc N141 g.size
    have hp141 := h
    have hOp141 := hO
    have k140 := k140.new N141
    have B141 := N141.blk
    have g := gtg g N141.g
    replace E := E.grow N141.g
    have h := h.grow (N141.g)
    have hO := hO.grow (N141.g)
    refine Zs ((N141.g).only _) ?_
    refine Zm 10 J J ?_
    refine Ys (L' := []) [3, 3, 3, 0, 3, 0, 3, 0, 2, 1, 2] J J J J ?_
    have hOo := hO
    refine Xe J (Zy Ye (Zc J) (aqc J aq0) J) (Qi E.g1 hO (by simp) B141.row (Vo k140 q140 (by intro j hj; simp at hj ⊢ <;> omega) (fun j hj => .inr (hOlt j hj))) (by simp <;> omega) (by have := g.size; omega) ⟨by have := g.size; omega, fun hm => Aba _ (E.ltm (by simp [selB]) _ hm)⟩) ?_
    rintro v142 w142 ⟨rfl, a142, c142, z142, hO, hgA142, hgB142, BM142, BN142⟩
    refine ⟨nw1, ?_⟩
    replace E := E.keepX hgA142 hOo.ne (by simp [selB])
    replace E := E.s1 hgB142 BN142
    have g := Wx g hgA142 (fun k hk => hOo.ge k hk)
    have g := Yb g hgB142 (by omega)
    have h := h.keepO hgA142 hOo (by omega)
    have h := h.keep hgB142 BM142 (by omega) (.inl rfl)
    refine Xm ?_
    refine TK [4, 5] ?_
    refine AS fun _ ga Ca g E => ?_
    first | have h := h.keep ga Ca (by omega) (.inl rfl) | have h := h.keep ga Ca (by omega) (.inr ⟨by simp, fun hm => by have := htb2 _ hm; omega⟩)
    have hO := Ua hO
    refine RTN ?_
    rw [ef]; exact ⟨he140, Xh (t := annT t [_, _] ty0) rfl hO.kd, h, g⟩
  replace h4 : t.kind ≠ 12 := Zdh h4
  refine AU ?_
  refine' OR [0, 3, 4, 5, 6, 24] (fun hb5 => ?y5) (kq ?n5)
  case y5 =>
   refine AU ?_
   refine' OR [0, 3, 4, 5, 6, 24] (fun hb6 => ?y6) knr
   case y6 =>
    refine AU ?_
    refine SK [143, 0, 3, 4, 5, 6, 24] ?_
    exact Ze knr
  case n5 =>
   refine IF (fun h7 => ?_) fun h7 => ?_
   · replace h7 : t.kind = 13 ∨ t.kind = 14 ∨ t.kind = 15 := by simpa [or_assoc] using h7
     obtain ⟨hl, z0⟩ : t.kids.length = 1 ∧ exprB (Za t 0) = true := by
       rcases h7 with q | q | q
       · exact sh13 q hx
       · exact sh14 q hx
       · exact sh15 q hx
     have ef := st_13 (F := F) (S := S) h7
     have hc0 := hcS 0 (by omega)
     rw [hcX 0 (by omega)] at ef
     obtain ⟨hpe, p_151, c_151, hcell, hkid⟩ := Yr hk0 (i := 0) (by omega)
     refine AU ?_
     refine Y2 J Xj J J (CxM.to (KE 0 (by omega) z0) [b3, b4, b5] h he hc hkid hb (by omega) (E.ltm (by simp [selB])) g.size) ((fun ch w' hz => Bad.pass hz (by rw [ef]; exact Er.refl _) (Aaa _) g)) ?_
     rintro v153 w153 ⟨⟨p153, c153, rfl, q153, k153⟩, he153, h, g153⟩
     refine ⟨nw1, ?_⟩
     have g := gtw g g153
     replace E := E.gtx g153
     have hO := hO.gt g153 rfl
     refine Ya _ J Zd Zp (pqc J pq0) J J ?_
     intro b154 w154 N154
     have l154 := Wc N154 g.size
     have hp154 := h
     have hOp154 := hO
     have k153 := k153.new N154
     have B154 := N154.blk
     have g := gtg g N154.g
     replace E := E.grow N154.g
     have h := h.grow (N154.g)
     have hO := hO.grow (N154.g)
     have hOo := hO
     refine Xe J (Zy Ye (Zc J) (aqc J aq0) J) (Qi E.g0 hO (by simp) B154.row (Vo k153 q153 (by intro j hj; simp at hj ⊢ <;> omega) (fun j hj => by cases hj)) (by simp <;> omega) (by have := g.size; omega) ⟨by have := g.size; omega, fun hm => Aba _ (E.ltm (by simp [selB]) _ hm)⟩) ?_
     rintro v155 w155 ⟨rfl, a155, c155, z155, hO, hgA155, hgB155, BM155, BN155⟩
     refine ⟨nw1, ?_⟩
     replace E := E.keepX hgA155 hOo.ne (by simp [selB])
     replace E := E.s0 hgB155 BN155
     have g := Wx g hgA155 (fun k hk => hOo.ge k hk)
     have g := Yb g hgB155 (by omega)
     have h := h.keepO hgA155 hOo (by omega)
     have h := h.keep hgB155 BM155 (by omega) (.inl rfl)
     refine AS fun _ ga Ca g E => ?_
     first | have h := h.keep ga Ca (by omega) (.inl rfl) | have h := h.keep ga Ca (by omega) (.inr ⟨by simp, fun hm => by have := htb2 _ hm; omega⟩)
     have hO := Ua hO
     refine RTN ?_
     rw [ef]; exact ⟨he153, Xh (t := annT t [_] ty0) rfl hO.kd, h, g⟩
   simp only [Ata, Zbh] at h7
   refine IF (fun h8 => ?_) fun h8 => ?_
   · replace h8 : t.kind = 16 := Zch h8
     obtain ⟨hl, z0, z1⟩ := sh16 h8 hx
     have ef := st_16 (F := F) (S := S) h8
     have hc0 := hcS 0 (by omega)
     have hc1 := hcS 1 (by omega)
     have hs1 : sC t 1 = 0 + cN t 0 := rfl
     have hs2 : cN t 0 = count (Za t 0) := Xya (by omega)
     rw [hcX 0 (by omega), hcX 1 (by omega)] at ef
     have hst := (Uh F (Za t 0)).ex S
     have hcT := ((Jma F (Za t 0)).ex S hs).can hc
     refine AU ?_
     refine Yx (rowR none) [3, 3, 3, 0, 3, 0, 0, 2, 1, 2] [0, 0, 0, 4, 12, 28, 0, 126, 254, 511] mix (by kernel_rfl) [0, 1, 2, 3, 4, 5, 6, 7, 8, 9] J ?_
     have g := gtd g
     replace E := E.dr
     have h := h.grow (G.drew _)
     have hk0 := hk0.grow (G.drew _)
     have hO := hO.grow (G.drew _)
     refine Zr 0 J J (fun _ => Zw (Zc J)) (Zr 1 J J (fun _ => Zw (Zc J)) (Zr 2 J J (fun _ => Zh Zg (Zc J)) (Yg 3 J J (fun w1 hx => Zt Zi (Zc J) (fun _ => (E.g2.keep hx (fun h => nomatch h)).at_ J)) (?_))))
     obtain ⟨hpe, p_162, c_162, hcell, hkid⟩ := Yr hk0 (i := 0) (by omega)
     refine Zr 4 J J (fun _ => Xr Zd (Zc J) Xv (fun _ => by omega) (fun _ => hpe)) (Yg 5 J J (fun w1 hx => Zo Zf (Zc J) J (fun _ => hcell.kn hx)) (Yg 6 J J (fun w1 hx => Zo Zj Jua J (fun _ => h.laid.hC.2.2.2.2.1.kn hx)) (Zm 7 J J ?_)))
     refine Ys (L' := [8, 9]) [3, 3, 3, 0, 3, 0, 0, 2, 1, 2] J J J J ?_
     refine Y3 J Yy J J J (Qw (k := 6) (KE 0 (by omega) z0) (Uea F _) (by decide) [b3, b4, b5] h he hc hkid hb (by omega) (E.ltm (by simp [selB])) g.size) ((fun ch w' hz => Bad.pass hz (by rw [ef]; exact ((Uh F (Za t 1)).ex _).e.failu _ _ _) (Aaa _) g)) ?_
     rintro v165 w165 ⟨⟨p165, c165, rfl, q165, k165⟩, he165, eW, h, g165⟩
     refine ⟨nw1, ?_⟩
     have g := gtw g g165
     replace E := E.gtx g165
     have hO := hO.gt g165 rfl
     have hkid := hkid.gt g165 (fun k h => h)
     have hk0 := hk0.gt g165 (fun k h => h)
     rw [eW] at he165 ef
     have hb := hst.bd _ hb
     refine Xm ?_
     refine Zm 8 J J ?_
     refine Zl (L' := [9]) [3, 3, 3, 0, 3, 0, 0, 2, 1, 2] J J J ?_
     refine Ya _ J Zd Zp (pqc J pq0) J J ?_
     intro b166 w166 N166
     have l166 := Wc N166 g.size
     have hp166 := h
     have hOp166 := hO
     have k165 := k165.new N166
     have B166 := N166.blk
     have g := gtg g N166.g
     replace E := E.grow N166.g
     have h := h.grow (N166.g)
     have hk0 := hk0.grow (N166.g)
     have hO := hO.grow (N166.g)
     have hkid := hkid.grow (N166.g)
     refine Zs ((N166.g).only _) ?_
     refine Zm 9 J J ?_
     refine Ys (L' := []) [3, 3, 3, 0, 3, 0, 0, 2, 1, 2] J J J J ?_
     have hOo := hO
     refine Xe J (Zy Ye (Zc J) (aqc J aq0) J) (Qi E.g0 hO (by simp) B166.row (Vo k165 q165 (by intro j hj; simp at hj ⊢ <;> omega) (fun j hj => by cases hj)) (by simp <;> omega) (by have := g.size; omega) ⟨by have := g.size; omega, fun hm => Aba _ (E.ltm (by simp [selB]) _ hm)⟩) ?_
     rintro v167 w167 ⟨rfl, a167, c167, z167, hO, hgA167, hgB167, BM167, BN167⟩
     refine ⟨nw1, ?_⟩
     replace E := E.keepX hgA167 hOo.ne (by simp [selB])
     replace E := E.s0 hgB167 BN167
     have g := Wx g hgA167 (fun k hk => hOo.ge k hk)
     have g := Yb g hgB167 (by omega)
     have h := h.keepO hgA167 hOo (by omega)
     have h := h.keep hgB167 BM167 (by omega) (.inl rfl)
     have hk0 := hk0.keep hgA167 (fun k hk _ e => by have := hOo.ge k e.symm; omega)
     have hk0 := hk0.keep hgB167 (fun k hk _ e => by injection e with e; omega)
     have hkid := hkid.keep hgA167 (fun k hk _ e => by have := hOo.ge k e.symm; omega)
     have hkid := hkid.keep hgB167 (fun k hk _ e => by injection e with e; omega)
     refine Xm ?_
     refine TK [0, 3, 4, 5, 6] ?_
     refine AU ?_
     refine Yx (rowR none) [3, 3, 3, 0, 3, 0, 0, 2, 1, 2] [0, 0, 0, 4, 12, 28, 0, 126, 254, 511] mix (by kernel_rfl) [0, 1, 2, 3, 4, 5, 6, 7, 8, 9] J ?_
     have g := gtd g
     replace E := E.dr
     have h := h.grow (G.drew _)
     have hk0 := hk0.grow (G.drew _)
     have hO := hO.grow (G.drew _)
     have hcell := hcell.grow (G.drew _)
     have hkid := hkid.grow (G.drew _)
     refine Zr 0 J J (fun _ => Zw (Zc J)) (Zr 1 J J (fun _ => Zw (Zc J)) (Zr 2 J J (fun _ => Zh Zg (Zc J)) (Yg 3 J J (fun w1 hx => Zt Zi (Zc J) (fun _ => (E.g2.keep hx (fun h => nomatch h)).at_ J)) (?_))))
     obtain ⟨hpe, p_172, c_172, hcell, hkid⟩ := Yr hk0 (i := 1) (by omega)
     refine Zr 4 J J (fun _ => Xr Zd (Zc J) Xv (fun _ => by omega) (fun _ => hpe)) (Yg 5 J J (fun w1 hx => Zo Zf (Zc J) J (fun _ => hcell.kn hx)) (Yg 6 J J (fun w1 hx => Zo Zj Jua J (fun _ => h.laid.hC.1.kn hx)) (Zm 7 J J ?_)))
     refine Ys (L' := [8, 9]) [3, 3, 3, 0, 3, 0, 0, 2, 1, 2] J J J J ?_
     have hOlt := hO.lt
     refine Y3 J Yy J J J (Qw (k := 1) (KE 1 (by omega) z1) (Uea F _) (by decide) [b3, b4, b5] h he165 hcT hkid hb (by omega) (E.ltm (by simp [selB])) g.size) ((fun ch w' hz => Bad.pass hz (by rw [ef]; exact Er.refl _) (by rw [hst.scope]; exact Aaa _) g)) ?_
     rintro v175 w175 ⟨⟨p175, c175, rfl, q175, k175⟩, he175, eW2, h, g175⟩
     refine ⟨nw1, ?_⟩
     have g := gtw g g175
     replace E := E.gtx g175
     have hO := hO.gt g175 rfl
     rw [eW2] at he175 ef
     refine Xm ?_
     refine Zm 8 J J ?_
     refine Zl (L' := [9]) [3, 3, 3, 0, 3, 0, 0, 2, 1, 2] J J J ?_
     refine Ya _ J Zd Zp (pqc J pq0) J J ?_
     intro b176 w176 N176
     have l176 := Wc N176 g.size
     have hp176 := h
     have hOp176 := hO
     have k175 := k175.new N176
     have B176 := N176.blk
     have g := gtg g N176.g
     replace E := E.grow N176.g
     have h := h.grow (N176.g)
     have hO := hO.grow (N176.g)
     refine Zs ((N176.g).only _) ?_
     refine Zm 9 J J ?_
     refine Ys (L' := []) [3, 3, 3, 0, 3, 0, 0, 2, 1, 2] J J J J ?_
     have hOo := hO
     refine Xe J (Zy Ye (Zc J) (aqc J aq0) J) (Qi E.g0 hO (by simp) B176.row (Vo k175 q175 (by intro j hj; simp at hj ⊢ <;> omega) (fun j hj => .inr (hOlt j hj))) (by simp <;> omega) (by have := g.size; omega) ⟨by have := g.size; omega, fun hm => Aba _ (E.ltm (by simp [selB]) _ hm)⟩) ?_
     rintro v177 w177 ⟨rfl, a177, c177, z177, hO, hgA177, hgB177, BM177, BN177⟩
     refine ⟨nw1, ?_⟩
     replace E := E.keepX hgA177 hOo.ne (by simp [selB])
     replace E := E.s0 hgB177 BN177
     have g := Wx g hgA177 (fun k hk => hOo.ge k hk)
     have g := Yb g hgB177 (by omega)
     have h := h.keepO hgA177 hOo (by omega)
     have h := h.keep hgB177 BM177 (by omega) (.inl rfl)
     refine Xm ?_
     refine TK [4, 5] ?_
     refine AS fun _ ga Ca g E => ?_
     first | have h := h.keep ga Ca (by omega) (.inl rfl) | have h := h.keep ga Ca (by omega) (.inr ⟨by simp, fun hm => by have := htb2 _ hm; omega⟩)
     have hO := Ua hO
     refine RTN ?_
     rw [ef]; exact ⟨he175, Xh (t := annT t [_, _] ty0) rfl hO.kd, h, g⟩
   replace h8 : t.kind ≠ 16 := Zdh h8
   refine IF (fun h9 => ?_) fun h9 => ?_
   · replace h9 : t.kind = 17 := Zch h9
     obtain ⟨hl, z0⟩ := sh17 h9 hx
     have ef := st_17 (F := F) (S := S) h9
     have hc0 := hcS 0 (by omega)
     rw [hcX 0 (by omega)] at ef
     refine Yx (rowR none) [3, 3, 3, 0, 3, 0, 0, 2, 1, 2] [0, 0, 0, 4, 12, 28, 0, 126, 254, 511] mix (by kernel_rfl) [0, 1, 2, 3, 4, 5, 6, 7, 8, 9] J ?_
     have g := gtd g
     replace E := E.dr
     have h := h.grow (G.drew _)
     have hk0 := hk0.grow (G.drew _)
     have hO := hO.grow (G.drew _)
     refine Zr 0 J J (fun _ => Zw (Zc J)) (Zr 1 J J (fun _ => Zw (Zc J)) (Zr 2 J J (fun _ => Zh Zg (Zc J)) (Yg 3 J J (fun w1 hx => Zt Zi (Zc J) (fun _ => (E.g2.keep hx (fun h => nomatch h)).at_ J)) (?_))))
     obtain ⟨hpe, p_184, c_184, hcell, hkid⟩ := Yr hk0 (i := 0) (by omega)
     refine Zr 4 J J (fun _ => Xr Zd (Zc J) Xv (fun _ => by omega) (fun _ => hpe)) (Yg 5 J J (fun w1 hx => Zo Zf (Zc J) J (fun _ => hcell.kn hx)) (Yg 6 J J (fun w1 hx => Zo Zj Jua J (fun _ => h.laid.hC.2.2.2.2.1.kn hx)) (Zm 7 J J ?_)))
     refine Ys (L' := [8, 9]) [3, 3, 3, 0, 3, 0, 0, 2, 1, 2] J J J J ?_
     refine Y3 J Yy J J J (Qw (k := 6) (KE 0 (by omega) z0) (Uea F _) (by decide) [b3, b4, b5] h he hc hkid hb (by omega) (E.ltm (by simp [selB])) g.size) ((fun ch w' hz => Bad.pass hz (by rw [ef]; exact Er.refl _) (Aaa _) g)) ?_
     rintro v187 w187 ⟨⟨p187, c187, rfl, q187, k187⟩, he187, eW, h, g187⟩
     refine ⟨nw1, ?_⟩
     have g := gtw g g187
     replace E := E.gtx g187
     have hO := hO.gt g187 rfl
     rw [eW] at he187 ef
     refine Xm ?_
     refine Zm 8 J J ?_
     refine Zl (L' := [9]) [3, 3, 3, 0, 3, 0, 0, 2, 1, 2] J J J ?_
     refine Ya _ J Zd Zp (pqc J pq0) J J ?_
     intro b188 w188 N188
     have l188 := Wc N188 g.size
     have hp188 := h
     have hOp188 := hO
     have k187 := k187.new N188
     have B188 := N188.blk
     have g := gtg g N188.g
     replace E := E.grow N188.g
     have h := h.grow (N188.g)
     have hO := hO.grow (N188.g)
     refine Zs ((N188.g).only _) ?_
     refine Zm 9 J J ?_
     refine Ys (L' := []) [3, 3, 3, 0, 3, 0, 0, 2, 1, 2] J J J J ?_
     have hOo := hO
     refine Xe J (Zy Ye (Zc J) (aqc J aq0) J) (Qi E.g0 hO (by simp) B188.row (Vo k187 q187 (by intro j hj; simp at hj ⊢ <;> omega) (fun j hj => by cases hj)) (by simp <;> omega) (by have := g.size; omega) ⟨by have := g.size; omega, fun hm => Aba _ (E.ltm (by simp [selB]) _ hm)⟩) ?_
     rintro v189 w189 ⟨rfl, a189, c189, z189, hO, hgA189, hgB189, BM189, BN189⟩
     refine ⟨nw1, ?_⟩
     replace E := E.keepX hgA189 hOo.ne (by simp [selB])
     replace E := E.s0 hgB189 BN189
     have g := Wx g hgA189 (fun k hk => hOo.ge k hk)
     have g := Yb g hgB189 (by omega)
     have h := h.keepO hgA189 hOo (by omega)
     have h := h.keep hgB189 BM189 (by omega) (.inl rfl)
     refine Xm ?_
     refine TK [4, 5] ?_
     refine AS fun _ ga Ca g E => ?_
     first | have h := h.keep ga Ca (by omega) (.inl rfl) | have h := h.keep ga Ca (by omega) (.inr ⟨by simp, fun hm => by have := htb2 _ hm; omega⟩)
     have hO := Ua hO
     refine RTN ?_
     rw [ef]; exact ⟨he187, Xh (t := annT t [_] ty0) rfl hO.kd, h, g⟩
   replace h9 : t.kind ≠ 17 := Zdh h9
   refine IF (fun h10 => ?_) fun h10 => ?_
   · replace h10 : t.kind = 21 := Zch h10
     obtain ⟨hl, z0⟩ := sh21 h10 hx
     have ef := st_21 (F := F) (S := S) h10
     have hc0 := hcS 0 (by omega)
     rw [hcX 0 (by omega)] at ef
     have hcan := (Uhc F (Za t 0)).ex S hs hc
     rw [← Qub hcan (k := 1) (by decide), ← Qub hcan (k := 2) (by decide)] at ef
     have hst := (Uh F (Za t 0)).ex S
     obtain ⟨hpe, p_195, c_195, hcell, hkid⟩ := Yr hk0 (i := 0) (by omega)
     refine AU ?_
     refine Y2 J Xj J J (CxM.to (KE 0 (by omega) z0) [b3, b4, b5] h he hc hkid hb (by omega) (E.ltm (by simp [selB])) g.size) ((fun ch w' hz => Bad.pass hz (by rw [ef]; exact (Er.refl _).failu _ _ _) (Aaa _) g)) ?_
     rintro v197 w197 ⟨⟨p197, c197, rfl, q197, k197⟩, he197, h, g197⟩
     refine ⟨nw1, ?_⟩
     have g := gtw g g197
     replace E := E.gtx g197
     have hO := hO.gt g197 rfl
     have hkid := hkid.gt g197 (fun k h => h)
     have hk0 := hk0.gt g197 (fun k h => h)
     refine Yt J Zp J ?_
     intro b11 w11 N11
     have l11 := Wc N11 g.size
     have hp11 := h
     have hOp11 := hO
     have k197 := k197.new N11
     have g := gtg g N11.g
     have h := h.grow (N11.g)
     have hk0 := hk0.grow (N11.g)
     have hO := hO.grow (N11.g)
     have hkid := hkid.grow (N11.g)
     replace E := E.new N11
     have hO := Yxa [b3, b4, b5, b11] w.heap.size w11
     refine AS fun _ ga Ca g E => ?_
     first | have h := h.keep ga Ca (by omega) (.inl rfl) | have h := h.keep ga Ca (by omega) (.inr ⟨by simp, fun hm => by have := htb2 _ hm; omega⟩)
     have hk0 := Ud hk0
     have hO := Ua hO
     have hkid := Ud hkid
     have k197 := k197.keep ga (by first | exact .inl (by omega) | exact .inr (by simp))
     refine AU ?_
     refine Yx (rowR none) [3, 0, 0, 3, 3, 3, 0, 0, 3, 3, 3, 0, 3, 3, 0, 1] [0, 1, 0, 7, 15, 31, 63, 31, 255, 511, 0, 1024, 3072, 7168, 15360, 32767] mix (by kernel_rfl) [0, 1, 2, 3, 4, 5, 6, 7, 8, 9, 10, 11, 12, 13, 14, 15] J ?_
     have g := gtd g
     replace E := E.dr
     have h := h.grow (G.drew _)
     have hk0 := hk0.grow (G.drew _)
     have hO := hO.grow (G.drew _)
     have hcell := hcell.grow (G.drew _)
     have hkid := hkid.grow (G.drew _)
     have k197 := k197.grow (G.drew _)
     refine Zr 0 J J (fun _ => Zh Yh (Zc J)) (Yg 1 J J (fun w1 hx => Zo Zj (Zc J) J (fun _ => (E.g0.keep hx (fun h => nomatch h)).row.part 5 2)) (Yg 2 J J (fun w1 hx => Zo Zj Jua J (fun _ => h.laid.hC.1.kn hx)) (Zr 3 J J (fun _ => Jd Wh (Zc J) (Zc J) J) (Zr 4 J J (fun _ => Zw (Zc J)) (Yqa (L' := [6, 7, 8, 9, 10, 11, 12, 13, 14, 15]) 5 J J J J J (fun _ => Zh Yh (Zc J)) (Vba (L' := [7, 8, 9, 10, 11, 12, 13, 14, 15]) 6 J J J J J (fun w1 hx => Zo Zj (Yc J id) J (fun _ => (E.g0.keep hx (fun h => nomatch h)).row.part 5 2)) (Vba (L' := [8, 9, 10, 11, 12, 13, 14, 15]) 7 J J J J J (fun w1 hx => Zo Zj Jua J (fun _ => h.laid.hC.2.1.kn hx)) (Yqa (L' := [9, 10, 11, 12, 13, 14, 15]) 8 J J J J J (fun _ => Jd Wh (Yc J id) (Yc J id) J) (Zr 9 J J (fun _ => Xo (Zc J) (Yc J id)) (Zr 10 J J (fun _ => Zh Zg (Zc J)) (Yg 11 J J (fun w1 hx => Zt Zi (Zc J) (fun _ => (E.g3.keep hx (fun h => nomatch h)).at_ J)) (?_))))))))))))
     obtain ⟨hpe, p_210, c_210, hcell, hkid⟩ := Yr hk0 (i := 0) (by omega)
     refine Zr 12 J J (fun _ => Xr Zd (Zc J) Xv (fun _ => by omega) (fun _ => hpe)) (Zr 13 J J (fun _ => Zh Xp (Zc J)) (Yg 14 J J (fun w1 hx => Zt Yf (Zc J) (fun _ => (hcell.kn hx).one (i := 3) J)) (Zm 15 J J ?_)))
     refine Zl (L' := []) [3, 0, 0, 3, 3, 3, 0, 0, 3, 3, 3, 0, 3, 3, 0, 1] J J J ?_
     refine Y3 J Yd J J J (Wy _ _ _ _) ((fun ch w' hz => Un h he197 (by decide) (by rw [ef]; exact Er.refl _) hz g (by rw [hst.scope]; exact Aaa _))) ?_
     rintro v213 w213 ⟨rfl, hq213, g213⟩
     refine ⟨fun _ => g213, ?_⟩
     have g := gtg g g213
     replace E := E.grow g213
     have h := h.grow (g213)
     have hO := hO.grow (g213)
     have k197 := k197.grow (g213)
     rw [show (tyEqB ((ckT F (Za t 0)).ex S).1.ty ⟨1, []⟩ || tyEqB ((ckT F (Za t 0)).ex S).1.ty ⟨2, []⟩) = true from hq213] at ef
     refine Zs ((g213).only _) ?_
     refine TK [4, 5, 6, 11] ?_
     refine AU ?_
     refine Ya _ J Zd Zp (pqc J pq0) J J ?_
     intro b216 w216 N216
     have l216 := Wc N216 g.size
     have hp216 := h
     have hOp216 := hO
     have k197 := k197.new N216
     have B216 := N216.blk
     have g := gtg g N216.g
     replace E := E.grow N216.g
     have h := h.grow (N216.g)
     have hO := hO.grow (N216.g)
     have hOo := hO
     refine Xe J (Zy Ye (Zc J) (aqc J aq0) J) (Qi E.g1 hO (by simp) B216.row (Vo k197 q197 (by intro j hj; simp at hj ⊢ <;> omega) (fun j hj => by cases hj)) (by simp <;> omega) (by have := g.size; omega) ⟨by have := g.size; omega, fun hm => Aba _ (E.ltm (by simp [selB]) _ hm)⟩) ?_
     rintro v217 w217 ⟨rfl, a217, c217, z217, hO, hgA217, hgB217, BM217, BN217⟩
     refine ⟨nw1, ?_⟩
     replace E := E.keepX hgA217 hOo.ne (by simp [selB])
     replace E := E.s1 hgB217 BN217
     have g := Wx g hgA217 (fun k hk => hOo.ge k hk)
     have g := Yb g hgB217 (by omega)
     have h := h.keepO hgA217 hOo (by omega)
     have h := h.keep hgB217 BM217 (by omega) (.inl rfl)
     refine AS fun _ ga Ca g E => ?_
     first | have h := h.keep ga Ca (by omega) (.inl rfl) | have h := h.keep ga Ca (by omega) (.inr ⟨by simp, fun hm => by have := htb2 _ hm; omega⟩)
     have hO := Ua hO
     refine RTN ?_
     rw [ef]; exact ⟨he197, Xh (t := annT t [_] ty0) rfl hO.kd, h, g⟩
   replace h10 : t.kind ≠ 21 := Zdh h10
   refine AU ?_
   refine' OR [0, 3, 4, 5, 6, 24] (fun hb11 => ?y11) (kq ?n11)
   case y11 =>
    refine AU ?_
    refine SK [218, 0, 3, 4, 5, 6, 24] ?_
    exact Ze knr
   case n11 =>
    refine IF (fun h12 => ?_) fun h12 => ?_
    · replace h12 : t.kind = 18 ∨ t.kind = 19 := by simpa using h12
      obtain ⟨⟨hl2, hl3⟩, z0, zr, ef⟩ := st_rest' (F := F) (S := S) hx h12
      obtain ⟨bp, op, rfl⟩ : ∃ bp op, p = some ⟨bp, op, none⟩ := ⟨_, _, (Yr hk0 (i := 0) (by omega)).1⟩
      have hc0 := hcS 0 (by omega)
      obtain ⟨C, hC⟩ : ∃ C, C = cndA F t S := ⟨_, rfl⟩
      rw [← hC] at ef
      have hsC : Stp (sC t 1) S C.2 := by rw [hC]; exact Zxg (by omega)
      have hvC : Vs S C.2 := by rw [hC]; exact Ufg hs
      have hrc := Und (F := F) (t := t) (hvC.sc hs) (hvC.can hc)
      have hrs := Uod (F := F) hsC
      have her : ∀ i k, Er (restA F t C.2 i).2 (restA F t C.2 (i + k)).2 := Wbe F t C.2
      have hec : Er C.2 ((ckT F t).st S).2 := by
        rw [ef]
        have := her 0 (t.kids.length - 1)
        rwa [Afa] at this
      obtain ⟨hpe, p_223, c_223, hcell, hkid⟩ := Yr hk0 (i := 0) (by omega)
      refine IF (fun h13 => ?_) fun h13 => ?_
      · replace h13 : (Za t 0).kind = 9 := Zch h13
        have eC := hC.trans (Wrf h13)
        have hkk := Wce z0 h13
        obtain ⟨hpe, p_230, c_230, hcell, hkid⟩ := Yr hk0 (i := 0) (by omega)
        refine AU ?_
        refine CL (Js (Za t 0) _ _ _ [b3, b4, b5] hkid (by omega) (E.ltm (by simp [selB])) g.size) ?_
        rintro _ _ ⟨⟨p232, c232, rfl, q232, k232⟩, ga⟩
        refine RC fun g E => ?_
        have h := Uk h
        have hk0 := Uk hk0
        have hO := Uk hO
        have hcell := Uk hcell
        have hkid := Uk hkid
        refine Ya _ J Zd Zp (pqc J pq0) J J ?_
        intro b233 w233 N233
        have l233 := Wc N233 g.size
        have hp233 := h
        have hOp233 := hO
        have k232 := k232.new N233
        have B233 := N233.blk
        have g := gtg g N233.g
        replace E := E.grow N233.g
        have h := h.grow (N233.g)
        have hk0 := hk0.grow (N233.g)
        have hO := hO.grow (N233.g)
        have hcell := hcell.grow (N233.g)
        have hkid := hkid.grow (N233.g)
        have hOo := hO
        refine Xe J (Zy Ye (Zc J) (aqc J aq0) J) (Qi E.g0 hO (by simp) B233.row (Vo k232 q232 (by intro j hj; simp at hj ⊢ <;> omega) (fun j hj => by cases hj)) (by simp <;> omega) (by have := g.size; omega) ⟨by have := g.size; omega, fun hm => Aba _ (E.ltm (by simp [selB]) _ hm)⟩) ?_
        rintro v234 w234 ⟨rfl, a234, c234, z234, hO, hgA234, hgB234, BM234, BN234⟩
        refine ⟨nw1, ?_⟩
        replace E := E.keepX hgA234 hOo.ne (by simp [selB])
        replace E := E.s0 hgB234 BN234
        have g := Wx g hgA234 (fun k hk => hOo.ge k hk)
        have g := Yb g hgB234 (by omega)
        have h := h.keepO hgA234 hOo (by omega)
        have h := h.keep hgB234 BM234 (by omega) (.inl rfl)
        have hk0 := hk0.keep hgA234 (fun k hk _ e => by have := hOo.ge k e.symm; omega)
        have hk0 := hk0.keep hgB234 (fun k hk _ e => by injection e with e; omega)
        have hkid := hkid.keep hgA234 (fun k hk _ e => by have := hOo.ge k e.symm; omega)
        have hkid := hkid.keep hgB234 (fun k hk _ e => by injection e with e; omega)
        have heC : C.2.ee = 0 := by rw [eC]; exact he
        replace h : PC F n0 b TB X (some r0) C.2 w234 := by rw [eC]; exact h
        rw [Jaa hkk, show clnT (Za t 0) = C.1 from by rw [eC]] at hO
        refine AU ?_
        refine Zz J (fun _ => Yhb Zd (Zc J) Xv (fun _ => by omega)) ?_
        refine AU ?_
        have hnd1 := E.1
        refine Qa (fun (i : Nat) u1 => (i + 1 ≤ t.kids.length ∧ (restA F t C.2 i).2.ee = 0 ∧ PC F n0 b TB X (some r0) (restA F t C.2 i).2 u1 ∧ ∃ s, Blk u1 b5 26 (ndCells (clnT t) s) ∧ OwnN [b3, b4, b5] w.heap.size u1 (C.1 :: (restA F t C.2 i).1) s) ∧ GT (mutC X) n0 w u1) _ [(0, True, _), (4, True, _), (5, True, _), (6, True, _), (247, True, _), (248, True, _)] (fun (i : Nat) => [(249, True, .int .i64 i)]) (fun (i : Nat) => t.kids.length - i) (0) ⟨⟨by omega, heC, h, _, E.g0, hO⟩, g⟩ (Zx (blkE E.g2) (Zx (blkE E.g1) (Wa _))) (Zb J (Zb J (Zb J (Zb J (Zb J (Zb J (Zb J (Zq _)))))))) ?_
        clear E
        rintro i u1 ⟨hI1, gl1⟩ ⟨B3, B4, _⟩
        replace B3 : Blk _ _ _ _ := B3
        replace B4 : Blk _ _ _ _ := B4
        have g := gl1
        obtain ⟨hi, hei, h, s, B5, hO⟩ := hI1
        obtain ⟨sa, sc, rfl⟩ := hO.slice
        have hk0 := hkw.gt gl1 (fun k h => h)
        have hlen := Xic F t C.2 i
        have E := Vwa (L := [(b5, _, _), (b4, _, _), (b3, _, _)]) hnd1 ⟨B5, B4, B3, trivial⟩ rfl
        refine IF (fun h14 => ?_) fun h14 => ?_
        · replace h14 : i + 1 < t.kids.length := by simp only [Zah] at h14; omega
          obtain ⟨e0, p1, c1, hcell, hkid⟩ := Yr hk0 (i := i + 1) h14
          have hci := hcS (i + 1) h14
          have hbd := (hrs i hi).bd _ hb
          obtain ⟨zn, zs⟩ := zr i h14
          refine Yu (kq (Zk (Yw (Zk (Zn (Yja Zd J J (by omega) J (Va Zf J J (by
  have q := hcell
  rw [show po (some (⟨bp, op, none⟩ : Addr)) + (i + 1) * 9 = op + 9 + i * 9 by show op + (i + 1) * 9 = _; omega] at q
  show RowAt u1 bp ((if c = 1 then op else op + 1 * 9) + i * 9) _
  rw [if_neg (by omega)]; exact q) (Yt rfl Zp rfl ?_))))))))
          intro b13 w13 N13
          have l13 := Wc N13 g.size
          have hp13 := h
          have hOp13 := hO
          have g := gtg g N13.g
          have h := h.grow (N13.g)
          have hO := hO.grow (N13.g)
          have hkid := hkid.grow (N13.g)
          replace E := E.new N13
          have hO := hOp13.new N13
          refine AS fun _ ga Ca g E => ?_
          first | have h := h.keep ga Ca (by omega) (.inl rfl) | have h := h.keep ga Ca (by omega) (.inr ⟨by simp, fun hm => by have := htb2 _ hm; omega⟩)
          have hO := Ua hO
          have hkid := Ud hkid
          refine IF (fun h15 => ?_) fun h15 => ?_
          · replace h15 : (Za t (i + 1)).kind = 9 := Zch h15
            have ern := Zcd (F := F) (T := C.2) h15
            refine AU ?_
            have hOlt := hO.lt
            refine CL (Js (Za t (i + 1)) _ _ _ [b3, b4, b5, b13] hkid (by omega) (E.ltm (by simp [selB])) g.size) ?_
            rintro _ _ ⟨⟨p258, c258, rfl, q258, k258⟩, ga⟩
            refine RC fun g E => ?_
            have h := Uk h
            have hO := Uk hO
            refine Ya _ J Zd Zp (pqc J pq0) J J ?_
            intro b259 w259 N259
            have l259 := Wc N259 g.size
            have hp259 := h
            have hOp259 := hO
            have k258 := k258.new N259
            have B259 := N259.blk
            have g := gtg g N259.g
            replace E := E.grow N259.g
            have h := h.grow (N259.g)
            have hO := hO.grow (N259.g)
            have hOo := hO
            refine Xe J (Zy Ye (Zc J) (aqc J aq0) J) (Qi E.g1 hO (by simp) B259.row (Vo k258 q258 (by intro j hj; simp at hj ⊢ <;> omega) (fun j hj => .inr (hOlt j hj))) (by simp <;> omega) (by have := g.size; omega) ⟨by have := g.size; omega, fun hm => Aba _ (E.ltm (by simp [selB]) _ hm)⟩) ?_
            rintro v260 w260 ⟨rfl, a260, c260, z260, hO, hgA260, hgB260, BM260, BN260⟩
            refine ⟨nw1, ?_⟩
            replace E := E.keepX hgA260 hOo.ne (by simp [selB])
            replace E := E.s1 hgB260 BN260
            have g := Wx g hgA260 (fun k hk => hOo.ge k hk)
            have g := Yb g hgB260 (by omega)
            have h := h.keepO hgA260 hOo (by omega)
            have h := h.keep hgB260 BM260 (by omega) (.inl rfl)
            refine AU ?_
            refine SK [249, 0, 4, 5, 6, 247, 248] ?_
            refine Ze (fun a ha => ?_)
            exact ⟨i + 1, ha, ⟨⟨h14, by rw [ern]; exact hei, by rw [ern]; exact h, _, E.g1, by rw [ern, ← Jaa (zn h15)]; exact hO.sub (by intro j hj; simp at hj ⊢ <;> omega)⟩, g⟩, (Zx (blkE E.g3) (Zx (blkE E.g2) (Wa _))), by omega⟩
          replace h15 : (Za t (i + 1)).kind ≠ 9 := Zdh h15
          have ern := Zdd (F := F) (T := C.2) h15
          refine AU ?_
          have hOlt := hO.lt
          refine Y2 J Qp J J (CxM.to (KT (i + 1) h14 (zs h15)) [b3, b4, b5, b13] h hei (hrc i).2 hkid hbd (by omega) (E.ltm (by simp [selB])) g.size) ((fun ch w' hz => Bad.pass hz (by rw [ef]; have := her (i + 1) (t.kids.length - 1 - (i + 1)); rwa [show i + 1 + (t.kids.length - 1 - (i + 1)) = t.kids.length - 1 by omega, ern] at this) (by rw [(hrs i hi).scope]; exact Aaa _) g)) ?_
          rintro v264 w264 ⟨⟨p264, c264, rfl, q264, k264⟩, he264, h, g264⟩
          refine ⟨nw1, ?_⟩
          have g := gtw g g264
          replace E := E.gtx g264
          have hO := hO.gt g264 rfl
          refine Ya _ J Zd Zp (pqc J pq0) J J ?_
          intro b265 w265 N265
          have l265 := Wc N265 g.size
          have hp265 := h
          have hOp265 := hO
          have k264 := k264.new N265
          have B265 := N265.blk
          have g := gtg g N265.g
          replace E := E.grow N265.g
          have h := h.grow (N265.g)
          have hO := hO.grow (N265.g)
          have hOo := hO
          refine Xe J (Zy Ye (Zc J) (aqc J aq0) J) (Qi E.g1 hO (by simp) B265.row (Vo k264 q264 (by intro j hj; simp at hj ⊢ <;> omega) (fun j hj => .inr (hOlt j hj))) (by simp <;> omega) (by have := g.size; omega) ⟨by have := g.size; omega, fun hm => Aba _ (E.ltm (by simp [selB]) _ hm)⟩) ?_
          rintro v266 w266 ⟨rfl, a266, c266, z266, hO, hgA266, hgB266, BM266, BN266⟩
          refine ⟨nw1, ?_⟩
          replace E := E.keepX hgA266 hOo.ne (by simp [selB])
          replace E := E.s1 hgB266 BN266
          have g := Wx g hgA266 (fun k hk => hOo.ge k hk)
          have g := Yb g hgB266 (by omega)
          have h := h.keepO hgA266 hOo (by omega)
          have h := h.keep hgB266 BM266 (by omega) (.inl rfl)
          refine AU ?_
          refine SK [249, 0, 4, 5, 6, 247, 248] ?_
          refine Ze (fun a ha => ?_)
          exact ⟨i + 1, ha, ⟨⟨h14, by rw [ern]; exact he264, by rw [ern]; exact h, _, E.g1, by rw [ern]; exact hO.sub (by intro j hj; simp at hj ⊢ <;> omega)⟩, g⟩, (Zx (blkE E.g3) (Zx (blkE E.g2) (Wa _))), by omega⟩
        replace h14 : i = t.kids.length - 1 := by simp only [Zbh] at h14; omega
        subst h14
        refine AS fun _ ga Ca g E => ?_
        first | have h := h.keep ga Ca (by omega) (.inl rfl) | have h := h.keep ga Ca (by omega) (.inr ⟨by simp, fun hm => by have := htb2 _ hm; omega⟩)
        have hO := Ua hO
        refine RTN ?_
        rw [ef]; exact ⟨hei, Xh (t := annT t _ ty0) rfl (hO.sub (Y := [b3, b4, b5]) (by intro j hj; simp at hj ⊢ <;> omega)).kd, h, g⟩
      replace h13 : (Za t 0).kind ≠ 9 := Zdh h13
      have z0 := z0.resolve_left fun q => h13 (Vy q).1
      have eC := hC.trans (Wsf h13)
      refine Yx (rowR none) [3, 3, 3, 0, 3, 0, 0, 2, 1, 2] [0, 0, 0, 4, 12, 28, 0, 126, 254, 511] mix (by kernel_rfl) [0, 1, 2, 3, 4, 5, 6, 7, 8, 9] J ?_
      have g := gtd g
      replace E := E.dr
      have h := h.grow (G.drew _)
      have hk0 := hk0.grow (G.drew _)
      have hO := hO.grow (G.drew _)
      have hcell := hcell.grow (G.drew _)
      have hkid := hkid.grow (G.drew _)
      refine Zr 0 J J (fun _ => Zw (Zc J)) (Zr 1 J J (fun _ => Zw (Zc J)) (Zr 2 J J (fun _ => Zh Zg (Zc J)) (Yg 3 J J (fun w1 hx => Zt Zi (Zc J) (fun _ => (E.g2.keep hx (fun h => nomatch h)).at_ J)) (?_))))
      obtain ⟨hpe, p_239, c_239, hcell, hkid⟩ := Yr hk0 (i := 0) (by omega)
      refine Zr 4 J J (fun _ => Xr Zd (Zc J) Xv (fun _ => by omega) (fun _ => hpe)) (Yg 5 J J (fun w1 hx => Zo Zf (Zc J) J (fun _ => hcell.kn hx)) (Yg 6 J J (fun w1 hx => Zo Zj Jua J (fun _ => h.laid.hC.2.1.kn hx)) (Zm 7 J J ?_)))
      refine Ys (L' := [8, 9]) [3, 3, 3, 0, 3, 0, 0, 2, 1, 2] J J J J ?_
      refine Y3 J Yy J J J (Qw (k := 2) (KE 0 (by omega) z0) (Uea F _) (by decide) [b3, b4, b5] h he hc hkid hb (by omega) (E.ltm (by simp [selB])) g.size) ((fun ch w' hz => Bad.pass hz (by rw [eC] at hec; exact hec) (Aaa _) g)) ?_
      rintro v242 w242 ⟨⟨p242, c242, rfl, q242, k242⟩, he242, eW, h, g242⟩
      refine ⟨nw1, ?_⟩
      have g := gtw g g242
      replace E := E.gtx g242
      have hO := hO.gt g242 rfl
      have hkid := hkid.gt g242 (fun k h => h)
      have hk0 := hk0.gt g242 (fun k h => h)
      rw [eW] at he242 eC
      refine Xm ?_
      refine Zm 8 J J ?_
      refine Zl (L' := [9]) [3, 3, 3, 0, 3, 0, 0, 2, 1, 2] J J J ?_
      refine Ya _ J Zd Zp (pqc J pq0) J J ?_
      intro b243 w243 N243
      have l243 := Wc N243 g.size
      have hp243 := h
      have hOp243 := hO
      have k242 := k242.new N243
      have B243 := N243.blk
      have g := gtg g N243.g
      replace E := E.grow N243.g
      have h := h.grow (N243.g)
      have hk0 := hk0.grow (N243.g)
      have hO := hO.grow (N243.g)
      have hkid := hkid.grow (N243.g)
      refine Zs ((N243.g).only _) ?_
      refine Zm 9 J J ?_
      refine Ys (L' := []) [3, 3, 3, 0, 3, 0, 0, 2, 1, 2] J J J J ?_
      have hOo := hO
      refine Xe J (Zy Ye (Zc J) (aqc J aq0) J) (Qi E.g0 hO (by simp) B243.row (Vo k242 q242 (by intro j hj; simp at hj ⊢ <;> omega) (fun j hj => by cases hj)) (by simp <;> omega) (by have := g.size; omega) ⟨by have := g.size; omega, fun hm => Aba _ (E.ltm (by simp [selB]) _ hm)⟩) ?_
      rintro v244 w244 ⟨rfl, a244, c244, z244, hO, hgA244, hgB244, BM244, BN244⟩
      refine ⟨nw1, ?_⟩
      replace E := E.keepX hgA244 hOo.ne (by simp [selB])
      replace E := E.s0 hgB244 BN244
      have g := Wx g hgA244 (fun k hk => hOo.ge k hk)
      have g := Yb g hgB244 (by omega)
      have h := h.keepO hgA244 hOo (by omega)
      have h := h.keep hgB244 BM244 (by omega) (.inl rfl)
      have hk0 := hk0.keep hgA244 (fun k hk _ e => by have := hOo.ge k e.symm; omega)
      have hk0 := hk0.keep hgB244 (fun k hk _ e => by injection e with e; omega)
      have hkid := hkid.keep hgA244 (fun k hk _ e => by have := hOo.ge k e.symm; omega)
      have hkid := hkid.keep hgB244 (fun k hk _ e => by injection e with e; omega)
      have heC : C.2.ee = 0 := by rw [eC]; exact he242
      replace h : PC F n0 b TB X (some r0) C.2 w244 := by rw [eC]; exact h
      rw [show ((ckT F (Za t 0)).ex S).1 = C.1 from by rw [eC]] at hO
      refine Xm ?_
      refine TK [0, 3, 4, 5, 6] ?_
      refine AU ?_
      refine Zz J (fun _ => Yhb Zd (Zc J) Xv (fun _ => by omega)) ?_
      refine AU ?_
      have hnd1 := E.1
      refine Qa (fun (i : Nat) u1 => (i + 1 ≤ t.kids.length ∧ (restA F t C.2 i).2.ee = 0 ∧ PC F n0 b TB X (some r0) (restA F t C.2 i).2 u1 ∧ ∃ s, Blk u1 b5 26 (ndCells (clnT t) s) ∧ OwnN [b3, b4, b5] w.heap.size u1 (C.1 :: (restA F t C.2 i).1) s) ∧ GT (mutC X) n0 w u1) _ [(0, True, _), (4, True, _), (5, True, _), (6, True, _), (247, True, _), (248, True, _)] (fun (i : Nat) => [(249, True, .int .i64 i)]) (fun (i : Nat) => t.kids.length - i) (0) ⟨⟨by omega, heC, h, _, E.g0, hO⟩, g⟩ (Zx (blkE E.g2) (Zx (blkE E.g1) (Wa _))) (Zb J (Zb J (Zb J (Zb J (Zb J (Zb J (Zb J (Zq _)))))))) ?_
      clear E
      rintro i u1 ⟨hI1, gl1⟩ ⟨B3, B4, _⟩
      replace B3 : Blk _ _ _ _ := B3
      replace B4 : Blk _ _ _ _ := B4
      have g := gl1
      obtain ⟨hi, hei, h, s, B5, hO⟩ := hI1
      obtain ⟨sa, sc, rfl⟩ := hO.slice
      have hk0 := hkw.gt gl1 (fun k h => h)
      have hlen := Xic F t C.2 i
      have E := Vwa (L := [(b5, _, _), (b4, _, _), (b3, _, _)]) hnd1 ⟨B5, B4, B3, trivial⟩ rfl
      refine IF (fun h14 => ?_) fun h14 => ?_
      · replace h14 : i + 1 < t.kids.length := by simp only [Zah] at h14; omega
        obtain ⟨e0, p1, c1, hcell, hkid⟩ := Yr hk0 (i := i + 1) h14
        have hci := hcS (i + 1) h14
        have hbd := (hrs i hi).bd _ hb
        obtain ⟨zn, zs⟩ := zr i h14
        refine Yu (kq (Zk (Yw (Zk (Zn (Yja Zd J J (by omega) J (Va Zf J J (by
  have q := hcell
  rw [show po (some (⟨bp, op, none⟩ : Addr)) + (i + 1) * 9 = op + 9 + i * 9 by show op + (i + 1) * 9 = _; omega] at q
  show RowAt u1 bp ((if c = 1 then op else op + 1 * 9) + i * 9) _
  rw [if_neg (by omega)]; exact q) (Yt rfl Zp rfl ?_))))))))
        intro b13 w13 N13
        have l13 := Wc N13 g.size
        have hp13 := h
        have hOp13 := hO
        have g := gtg g N13.g
        have h := h.grow (N13.g)
        have hO := hO.grow (N13.g)
        have hkid := hkid.grow (N13.g)
        replace E := E.new N13
        have hO := hOp13.new N13
        refine AS fun _ ga Ca g E => ?_
        first | have h := h.keep ga Ca (by omega) (.inl rfl) | have h := h.keep ga Ca (by omega) (.inr ⟨by simp, fun hm => by have := htb2 _ hm; omega⟩)
        have hO := Ua hO
        have hkid := Ud hkid
        refine IF (fun h15 => ?_) fun h15 => ?_
        · replace h15 : (Za t (i + 1)).kind = 9 := Zch h15
          have ern := Zcd (F := F) (T := C.2) h15
          refine AU ?_
          have hOlt := hO.lt
          refine CL (Js (Za t (i + 1)) _ _ _ [b3, b4, b5, b13] hkid (by omega) (E.ltm (by simp [selB])) g.size) ?_
          rintro _ _ ⟨⟨p258, c258, rfl, q258, k258⟩, ga⟩
          refine RC fun g E => ?_
          have h := Uk h
          have hO := Uk hO
          refine Ya _ J Zd Zp (pqc J pq0) J J ?_
          intro b259 w259 N259
          have l259 := Wc N259 g.size
          have hp259 := h
          have hOp259 := hO
          have k258 := k258.new N259
          have B259 := N259.blk
          have g := gtg g N259.g
          replace E := E.grow N259.g
          have h := h.grow (N259.g)
          have hO := hO.grow (N259.g)
          have hOo := hO
          refine Xe J (Zy Ye (Zc J) (aqc J aq0) J) (Qi E.g1 hO (by simp) B259.row (Vo k258 q258 (by intro j hj; simp at hj ⊢ <;> omega) (fun j hj => .inr (hOlt j hj))) (by simp <;> omega) (by have := g.size; omega) ⟨by have := g.size; omega, fun hm => Aba _ (E.ltm (by simp [selB]) _ hm)⟩) ?_
          rintro v260 w260 ⟨rfl, a260, c260, z260, hO, hgA260, hgB260, BM260, BN260⟩
          refine ⟨nw1, ?_⟩
          replace E := E.keepX hgA260 hOo.ne (by simp [selB])
          replace E := E.s1 hgB260 BN260
          have g := Wx g hgA260 (fun k hk => hOo.ge k hk)
          have g := Yb g hgB260 (by omega)
          have h := h.keepO hgA260 hOo (by omega)
          have h := h.keep hgB260 BM260 (by omega) (.inl rfl)
          refine AU ?_
          refine SK [249, 0, 4, 5, 6, 247, 248] ?_
          refine Ze (fun a ha => ?_)
          exact ⟨i + 1, ha, ⟨⟨h14, by rw [ern]; exact hei, by rw [ern]; exact h, _, E.g1, by rw [ern, ← Jaa (zn h15)]; exact hO.sub (by intro j hj; simp at hj ⊢ <;> omega)⟩, g⟩, (Zx (blkE E.g3) (Zx (blkE E.g2) (Wa _))), by omega⟩
        replace h15 : (Za t (i + 1)).kind ≠ 9 := Zdh h15
        have ern := Zdd (F := F) (T := C.2) h15
        refine AU ?_
        have hOlt := hO.lt
        refine Y2 J Qp J J (CxM.to (KT (i + 1) h14 (zs h15)) [b3, b4, b5, b13] h hei (hrc i).2 hkid hbd (by omega) (E.ltm (by simp [selB])) g.size) ((fun ch w' hz => Bad.pass hz (by rw [ef]; have := her (i + 1) (t.kids.length - 1 - (i + 1)); rwa [show i + 1 + (t.kids.length - 1 - (i + 1)) = t.kids.length - 1 by omega, ern] at this) (by rw [(hrs i hi).scope]; exact Aaa _) g)) ?_
        rintro v264 w264 ⟨⟨p264, c264, rfl, q264, k264⟩, he264, h, g264⟩
        refine ⟨nw1, ?_⟩
        have g := gtw g g264
        replace E := E.gtx g264
        have hO := hO.gt g264 rfl
        refine Ya _ J Zd Zp (pqc J pq0) J J ?_
        intro b265 w265 N265
        have l265 := Wc N265 g.size
        have hp265 := h
        have hOp265 := hO
        have k264 := k264.new N265
        have B265 := N265.blk
        have g := gtg g N265.g
        replace E := E.grow N265.g
        have h := h.grow (N265.g)
        have hO := hO.grow (N265.g)
        have hOo := hO
        refine Xe J (Zy Ye (Zc J) (aqc J aq0) J) (Qi E.g1 hO (by simp) B265.row (Vo k264 q264 (by intro j hj; simp at hj ⊢ <;> omega) (fun j hj => .inr (hOlt j hj))) (by simp <;> omega) (by have := g.size; omega) ⟨by have := g.size; omega, fun hm => Aba _ (E.ltm (by simp [selB]) _ hm)⟩) ?_
        rintro v266 w266 ⟨rfl, a266, c266, z266, hO, hgA266, hgB266, BM266, BN266⟩
        refine ⟨nw1, ?_⟩
        replace E := E.keepX hgA266 hOo.ne (by simp [selB])
        replace E := E.s1 hgB266 BN266
        have g := Wx g hgA266 (fun k hk => hOo.ge k hk)
        have g := Yb g hgB266 (by omega)
        have h := h.keepO hgA266 hOo (by omega)
        have h := h.keep hgB266 BM266 (by omega) (.inl rfl)
        refine AU ?_
        refine SK [249, 0, 4, 5, 6, 247, 248] ?_
        refine Ze (fun a ha => ?_)
        exact ⟨i + 1, ha, ⟨⟨h14, by rw [ern]; exact he264, by rw [ern]; exact h, _, E.g1, by rw [ern]; exact hO.sub (by intro j hj; simp at hj ⊢ <;> omega)⟩, g⟩, (Zx (blkE E.g3) (Zx (blkE E.g2) (Wa _))), by omega⟩
      replace h14 : i = t.kids.length - 1 := by simp only [Zbh] at h14; omega
      subst h14
      refine AS fun _ ga Ca g E => ?_
      first | have h := h.keep ga Ca (by omega) (.inl rfl) | have h := h.keep ga Ca (by omega) (.inr ⟨by simp, fun hm => by have := htb2 _ hm; omega⟩)
      have hO := Ua hO
      refine RTN ?_
      rw [ef]; exact ⟨hei, Xh (t := annT t _ ty0) rfl (hO.sub (Y := [b3, b4, b5]) (by intro j hj; simp at hj ⊢ <;> omega)).kd, h, g⟩
    replace h12 : t.kind ≠ 18 ∧ t.kind ≠ 19 := by simpa using h12
    refine IF (fun h16 => ?_) fun h16 => ?_
    · replace h16 : t.kind = 20 := Zch h16
      obtain ⟨hl1, hall⟩ := sh20 h16 hx
      have ef := (st_20 (F := F) (S := S) h16).trans (ret_A hl1)
      refine AU ?_
      refine Xg [3, 3, 3, 0, 3, 3, 3, 0, 3, 3, 3, 0, 1, 2] [true, true, true, true, true, true, true, true, true, true, true, true, true, true] [0, 1, 3, 7, 0, 16, 48, 112, 240, 496, 1023, 2047, 0, 8191] mix (by kernel_rfl) ?_
      have g := gtd g
      replace E := E.dr
      have h := h.grow (G.drew _)
      have hk0 := hk0.grow (G.drew _)
      have hO := hO.grow (G.drew _)
      obtain ⟨fv, ms, mg, mn, mf, pv, sv, cv, rv, vs, sc, hK⟩ := id h
      obtain ⟨rk, rc, erv, _, hR⟩ := hK.res
      subst erv
      have hrl := hK.rl _ rfl
      have hlv := hb.lv
      have hnl := hb.nl
      have erl : (((r0.length + 1 : Nat) : Int) - 1).toNat = r0.length := by omega
      refine Zu J (Vx J (Xa Vw J (Xn Vv J (hK.B.at_ J) (Zu J (Vx J (Xa Vw J (Xn Vv J (hK.B.at_ J) (Xva Wd J (Zz J (fun _ => Xia (Zc J) Xv (fun _ => by omega)) (Jhb Wd J J (by omega) (Va Zj J J (by rw [erl]; exact hR) (Yt J Yz J ?_))))))))))))
      intro b14 w14 N14
      have l14 := Wc N14 g.size
      have hp14 := h
      have hOp14 := hO
      have g := gtg g N14.g
      have h := h.grow (N14.g)
      have hk0 := hk0.grow (N14.g)
      have hO := hO.grow (N14.g)
      replace E := E.new N14
      have h := hp14.addX N14
      have hO := Yxa [b3, b4, b5, b14] w.heap.size w14
      refine AS fun _ ga Ca g E => ?_
      first | have h := h.keep ga Ca (by omega) (.inl rfl) | have h := h.keep ga Ca (by omega) (.inr ⟨by simp, fun hm => by have := htb2 _ hm; omega⟩)
      have hk0 := Ud hk0
      have hO := Ua hO
      refine AU ?_
      refine Yx (rowR none) [3, 0, 3, 3, 0, 3, 3, 3, 3, 0, 1] [0, 1, 3, 7, 0, 0, 48, 127, 0, 256, 1023] mix (by kernel_rfl) [0, 1, 2, 3, 4, 5, 6, 7, 8, 9, 10] J ?_
      have g := gtd g
      replace E := E.dr
      have h := h.grow (G.drew _)
      have hk0 := hk0.grow (G.drew _)
      have hO := hO.grow (G.drew _)
      refine Zr 0 J J (fun _ => Zh Zg (Zc J)) (Yg 1 J J (fun w1 hx => Zt Zi (Zc J) (fun _ => (E.g3.keep hx (fun h => nomatch h)).at_ J)) (Zr 2 J J (fun _ => Qha Zd (Zc J)) (Zr 3 J J (fun _ => Jfc (Zc J) Xv) (Yg 4 J J (fun w1 hx => Zo Zj (Zc J) J (fun _ => (E.g0.keep hx (fun h => nomatch h)).row)) (Zr 5 J J (fun _ => Qt [_, _] Yz J Vj (Up) J) (Zr 6 J J (fun _ => Zvd Wh (Zc J) (Zc J) J) (Zr 7 J J (fun _ => Wsg Wzd (Zc J) (Zc J)) (Zr 8 J J (fun _ => Zh Xp (Zc J)) (Yg 9 J J (fun w1 hx => Zt Yf (Zc J) (fun _ => (E.g3.keep hx (fun h => nomatch h)).at_ J)) (Zm 10 J J ?_))))))))))
      refine Zl (L' := []) [3, 0, 3, 3, 0, 3, 3, 3, 3, 0, 1] J J J ?_
      refine Y3 J Yd J J J (Wy _ _ _ _) ((fun ch w' hz => Un (h.sub (Y := X) htb.1 (by intro j hj; simp [hj])) he (by decide) (by rw [ef, Wag hl1]; have := Zze F t (failU (decide ((0 : Int) < t.kids.length) == !tyEqB S.result ty0) t.pos 7 S) 0 t.kids.length; rwa [Afa] at this) hz g (Aaa _))) ?_
      rintro v292 w292 ⟨rfl, hq292, g292⟩
      refine ⟨fun _ => g292, ?_⟩
      have g := gtg g g292
      replace E := E.grow g292
      have h := h.grow (g292)
      have hk0 := hk0.grow (g292)
      have hO := hO.grow (g292)
      rw [Wag hl1, show (decide ((0 : Int) < t.kids.length) == !tyEqB S.result ty0) = true from hq292] at ef
      replace ef : (ckT F t).st S = (annT t (retA F t S t.kids.length).1 ty0, (retA F t S t.kids.length).2) := ef
      refine Zs ((g292).only _) ?_
      refine TK [0, 3, 4, 5, 6, 14] ?_
      refine AU ?_
      have hnd2 := E.1
      refine Qa (fun (i : Nat) u2 => (i ≤ t.kids.length ∧ (retA F t S i).2.ee = 0 ∧ PC F n0 b TB (b14 :: X) r0 (retA F t S i).2 u2 ∧ ∃ s, Blk u2 b5 26 (ndCells (clnT t) s) ∧ OwnN [b3, b4, b5, b14] w.heap.size u2 (retA F t S i).1 s) ∧ GT (mutC X) n0 w u2) _ [(0, True, _), (4, True, _), (5, True, _), (6, True, _), (14, True, _), (294, True, _), (295, True, _)] (fun (i : Nat) => [(296, True, .int .i64 i)]) (fun (i : Nat) => t.kids.length - i) (0) ⟨⟨Aha _, he, h, _, E.g1, hO⟩, g⟩ (Zx (blkE E.g3) (Zx (blkE E.g2) (Zx (blkE E.g0) (Wa _)))) (Zb J (Zb J (Zb J (Zb J (Zb J (Zb J (Zb J (Zb J (Zq _))))))))) ?_
      clear E
      rintro i u2 ⟨hI2, gl2⟩ ⟨B3, B4, B14, _⟩
      replace B3 : Blk _ _ _ _ := B3
      replace B4 : Blk _ _ _ _ := B4
      replace B14 : Blk _ _ _ _ := B14
      have g := gl2
      obtain ⟨hi, hei, h, s, B5, hO⟩ := hI2
      obtain ⟨sa, sc, rfl⟩ := hO.slice
      have hk0 := hkw.gt gl2 (fun k h => h)
      have hlen := Uld F t S i
      have hsi := Wee (F := F) (t := t) (Stp.refl S) i hi
      have E := Vwa (L := [(b14, _, _), (b5, _, _), (b4, _, _), (b3, _, _)]) hnd2 ⟨B14, B5, B4, B3, trivial⟩ rfl
      refine IF (fun h17 => ?_) fun h17 => ?_
      · replace h17 : i < t.kids.length := by simp only [Zah] at h17; omega
        obtain ⟨e0, p1, c1, hcell, hkid⟩ := Yr hk0 (i := i) h17
        have hci := hcS i h17
        have hbd := hsi.bd _ hb
        refine AU ?_
        refine Yt J Zp J ?_
        intro b16 w16 N16
        have l16 := Wc N16 g.size
        have hp16 := h
        have hOp16 := hO
        have g := gtg g N16.g
        have h := h.grow (N16.g)
        have hO := hO.grow (N16.g)
        have hkid := hkid.grow (N16.g)
        replace E := E.new N16
        have hO := hOp16.new N16
        refine AS fun _ ga Ca g E => ?_
        first | have h := h.keep ga Ca (by omega) (.inl rfl) | have h := h.keep ga Ca (by omega) (.inr ⟨by simp, fun hm => by have := htb2 _ hm; omega⟩)
        have hO := Ua hO
        have hkid := Ud hkid
        refine AU ?_
        have hOlt := hO.lt
        refine Y3 J Qc J J J (Yzb (KE i h17 (Xs hall h17)) (Uea F _) S.result [b3, b4, b5, b14, b16] h hei ((Wde hs hc i).can hc) hkid hbd (by omega) (E.ltm (by simp [selB])) g.size) ((fun ch w' hz => Bad.pass hz (by rw [ef]; have := Zze F t S (i + 1) (t.kids.length - (i + 1)); rwa [show i + 1 + (t.kids.length - (i + 1)) = t.kids.length by omega] at this) (by rw [hsi.scope]; exact Aaa _) g)) ?_
        rintro v304 w304 ⟨⟨p304, c304, rfl, q304, k304⟩, he304, eW, h, g304⟩
        refine ⟨nw1, ?_⟩
        have g := gtw g g304
        replace E := E.gtx g304
        have hO := hO.gt g304 rfl
        rw [eW] at he304
        have ern : retA F t S (i + 1) = ((retA F t S i).1 ++ [((ckT F (Za t i)).ex (retA F t S i).2).1], ((ckT F (Za t i)).ex (retA F t S i).2).2) := by rw [retA, eW]
        refine Ya _ J Zd Zp (pqc J pq0) J J ?_
        intro b305 w305 N305
        have l305 := Wc N305 g.size
        have hp305 := h
        have hOp305 := hO
        have k304 := k304.new N305
        have B305 := N305.blk
        have g := gtg g N305.g
        replace E := E.grow N305.g
        have h := h.grow (N305.g)
        have hO := hO.grow (N305.g)
        have hOo := hO
        refine Xe J (Zy Ye (Zc J) (aqc J aq0) J) (Qi E.g2 hO (by simp) B305.row (Vo k304 q304 (by intro j hj; simp at hj ⊢ <;> omega) (fun j hj => .inr (hOlt j hj))) (by simp <;> omega) (by have := g.size; omega) ⟨by have := g.size; omega, fun hm => Aba _ (E.ltm (by simp [selB]) _ hm)⟩) ?_
        rintro v306 w306 ⟨rfl, a306, c306, z306, hO, hgA306, hgB306, BM306, BN306⟩
        refine ⟨nw1, ?_⟩
        replace E := E.keepX hgA306 hOo.ne (by simp [selB])
        replace E := E.s2 hgB306 BN306
        have g := Wx g hgA306 (fun k hk => hOo.ge k hk)
        have g := Yb g hgB306 (by omega)
        have h := h.keepO hgA306 hOo (by omega)
        have h := h.keep hgB306 BM306 (by omega) (.inl rfl)
        refine AU ?_
        refine SK [296, 0, 4, 5, 6, 14, 294, 295] ?_
        refine Ze (fun a ha => ?_)
        exact ⟨i + 1, ha, ⟨⟨h17, by rw [ern]; exact he304, by rw [ern]; exact h, _, E.g2, by rw [ern]; exact hO.sub (by intro j hj; simp at hj ⊢ <;> omega)⟩, g⟩, (Zx (blkE E.g4) (Zx (blkE E.g3) (Zx (blkE E.g1) (Wa _)))), by omega⟩
      replace h17 : i = t.kids.length := by simp only [Zbh] at h17; omega
      subst h17
      refine AS fun _ ga Ca g E => ?_
      first | have h := h.keep ga Ca (by omega) (.inl rfl) | have h := h.keep ga Ca (by omega) (.inr ⟨by simp, fun hm => by have := htb2 _ hm; omega⟩)
      have hO := Ua hO
      refine RTN ?_
      rw [ef]; exact ⟨hei, Xh (t := annT t _ ty0) rfl (hO.sub (Y := [b3, b4, b5]) (by intro j hj; simp at hj ⊢ <;> omega)).kd, h.sub htb.1 (by intro j hj; simp [hj]), g⟩
    replace h16 : t.kind ≠ 20 := Zdh h16
    refine IF (fun h18 => ?_) fun h18 => ?_
    · replace h18 : t.kind = 22 := Zch h18
      have hall := sh22 h18 hx
      have ef : (ckT F t).st S = (annT t (selA t (ckX F t) S t.kids.length).1 ty0, (selA t (ckX F t) S t.kids.length).2.2) := st_22 h18
      refine AU ?_
      have hnd3 := E.1
      refine Qa (fun (i : Nat) u3 => (i ≤ t.kids.length ∧ (selA t (ckX F t) S i).2.2.ee = 0 ∧ PC F n0 b TB X (some r0) (selA t (ckX F t) S i).2.2 u3 ∧ ∃ s, Blk u3 b5 26 (ndCells (clnT t) s) ∧ OwnN [b3, b4, b5] w.heap.size u3 (selA t (ckX F t) S i).1 s) ∧ GT (mutC X) n0 w u3) _ [(0, True, _), (4, True, _), (5, True, _), (6, True, _), (311, True, _), (312, True, _)] (fun (i : Nat) => [(313, True, .int .i64 i), (17, True, .bool (!(selA t (ckX F t) S i).2.1))]) (fun (i : Nat) => t.kids.length - i) (0) ⟨⟨Aha _, he, h, _, E.g0, hO⟩, g⟩ (Zx (blkE E.g2) (Zx (blkE E.g1) (Wa _))) (Zb J (Zb J (Zb J (Zb J (Zb J (Zb J (Zb J (Zb J (Zq _))))))))) ?_
      clear E
      rintro i u3 ⟨hI3, gl3⟩ ⟨B3, B4, _⟩
      replace B3 : Blk _ _ _ _ := B3
      replace B4 : Blk _ _ _ _ := B4
      have g := gl3
      obtain ⟨hi, hei, h, s, B5, hO⟩ := hI3
      obtain ⟨sa, sc, rfl⟩ := hO.slice
      have hk0 := hkw.gt gl3 (fun k h => h)
      have hlen := Umd t (ckX F t) S i
      have hsi := Uec (Xeb F t) S i
      have E := Vwa (L := [(b5, _, _), (b4, _, _), (b3, _, _)]) hnd3 ⟨B5, B4, B3, trivial⟩ rfl
      refine IF (fun h19 => ?_) fun h19 => ?_
      · replace h19 : i < t.kids.length := by simp only [Zah] at h19; omega
        obtain ⟨e0, p1, c1, hcell, hkid⟩ := Yr hk0 (i := i) h19
        have hci := hcS i h19
        have hbd := hsi.bd _ hb
        have hsn := Wtf (F := F) (S := S) h19
        have hk2 := (sh23 (Xs hall h19)).2.1
        refine Yu (kq (Zk (Yw (Zk (Zn (Yja Zd J J (by omega) e0 (Va Zf J J hcell (Yt J Zp J ?_))))))))
        intro b19 w19 N19
        have l19 := Wc N19 g.size
        have hp19 := h
        have hOp19 := hO
        have g := gtg g N19.g
        have h := h.grow (N19.g)
        have hO := hO.grow (N19.g)
        have hkid := hkid.grow (N19.g)
        replace E := E.new N19
        have hO := hOp19.new N19
        refine AS fun _ ga Ca g E => ?_
        first | have h := h.keep ga Ca (by omega) (.inl rfl) | have h := h.keep ga Ca (by omega) (.inr ⟨by simp, fun hm => by have := htb2 _ hm; omega⟩)
        have hO := Ua hO
        have hkid := Ud hkid
        refine Ze (kq (Zk (Zn (Zu J (Zu J (Va Zf J J E.g0.row (Zu J (?_))))))))
        have hOlt := hO.lt
        refine Y3 J Zhb J J J (ChM.to (KC i h19 (Xs hall h19)) (selA t (ckX F t) S i).2.1 [b3, b4, b5, b19] h hei (Zyg hs hc i) hkid hbd (by omega) (E.ltm (by simp [selB])) g.size) ((fun ch w' hz => Bad.pass hz (by rw [ef]; have := Xjd (Xeb F t) S (i + 1) (t.kids.length - (i + 1)); rwa [show i + 1 + (t.kids.length - (i + 1)) = t.kids.length by omega, hsn] at this) (by rw [hsi.scope]; exact Aaa _) g)) ?_
        rintro v321 w321 ⟨⟨p321, c321, rfl, q321, k321⟩, he321, h, g321⟩
        refine ⟨nw1, ?_⟩
        have g := gtw g g321
        replace E := E.gtx g321
        have hO := hO.gt g321 rfl
        have hkid := hkid.gt g321 (fun k h => h)
        refine Ya _ J Zd Zp (pqc J pq0) J J ?_
        intro b322 w322 N322
        have l322 := Wc N322 g.size
        have hp322 := h
        have hOp322 := hO
        have k321 := k321.new N322
        have B322 := N322.blk
        have g := gtg g N322.g
        replace E := E.grow N322.g
        have h := h.grow (N322.g)
        have hO := hO.grow (N322.g)
        have hkid := hkid.grow (N322.g)
        have hOo := hO
        refine Xe J (Zy Ye (Zc J) (aqc J aq0) J) (Qi E.g1 hO (by simp) B322.row (Vo k321 q321 (by intro j hj; simp at hj ⊢ <;> omega) (fun j hj => .inr (hOlt j hj))) (by simp <;> omega) (by have := g.size; omega) ⟨by have := g.size; omega, fun hm => Aba _ (E.ltm (by simp [selB]) _ hm)⟩) ?_
        rintro v323 w323 ⟨rfl, a323, c323, z323, hO, hgA323, hgB323, BM323, BN323⟩
        refine ⟨nw1, ?_⟩
        replace E := E.keepX hgA323 hOo.ne (by simp [selB])
        replace E := E.s1 hgB323 BN323
        have g := Wx g hgA323 (fun k hk => hOo.ge k hk)
        have g := Yb g hgB323 (by omega)
        have h := h.keepO hgA323 hOo (by omega)
        have h := h.keep hgB323 BM323 (by omega) (.inl rfl)
        have hkid := hkid.keep hgA323 (fun k hk _ e => by have := hOo.ge k e.symm; omega)
        have hkid := hkid.keep hgB323 (fun k hk _ e => by injection e with e; omega)
        refine Ze (kq (Zn (?_)))
        obtain ⟨e1, p2, c2, hcell2, hkid2⟩ := Yr hkid (i := 0) (by omega)
        have eb : (!(selA t (ckX F t) S i).2.1 || decide ((Za (Za t i) 0).kind = 9)) = !(selA t (ckX F t) S (i + 1)).2.1 := by rw [hsn]; cases (selA t (ckX F t) S i).2.1 <;> cases decide ((Za (Za t i) 0).kind = 9) <;> rfl
        refine Zu J (Zu J (Zv J J J (fun _ => Zh Zg (Zc J)) (Wb J J J (Zt Zi (Yc J id) (fun _ => E.g0.at_ J)) (Zv J J J (fun _ => Xr Zd (Yc J id) Xv (fun _ => by omega) (fun _ => e1)) (Zv J J J (fun _ => Zh Xd (Yc J id)) (Wb J J J (Zt Yf (Yc J id) (fun _ => hcell2.one (i := 0) J)) (Zv J J J (fun _ => Wna (Yc J id) Xv) (Zz J (fun _ => Xo (Zc J) (Yc J id)) (Xf J (Ze (kq (Zn (Zeb J J (by omega) (Zu J (Vh [(313, _, _), (17, _, _), (0, _, _), (4, _, _), (5, _, _), (6, _, _), (311, _, _), (312, _, _)] (Zb J (Zb J (Zb J (Zb J (Zb J (Zb J (Zb J (Zb J (Zq _))))))))) (Ze (fun a ha => ?_)))))))))))))))))
        rw [eb] at ha
        exact ⟨i + 1, ha, ⟨⟨h19, by rw [hsn]; exact he321, by rw [hsn]; exact h, _, E.g1, by rw [hsn]; exact hO.sub (by intro j hj; simp at hj ⊢ <;> omega)⟩, g⟩, (Zx (blkE E.g3) (Zx (blkE E.g2) (Wa _))), by omega⟩
      replace h19 : i = t.kids.length := by simp only [Zbh] at h19; omega
      subst h19
      refine AS fun _ ga Ca g E => ?_
      first | have h := h.keep ga Ca (by omega) (.inl rfl) | have h := h.keep ga Ca (by omega) (.inr ⟨by simp, fun hm => by have := htb2 _ hm; omega⟩)
      have hO := Ua hO
      refine RTN ?_
      rw [ef]; exact ⟨hei, Xh (t := annT t _ ty0) rfl hO.kd, h, g⟩
    replace h18 : t.kind ≠ 22 := Zdh h18
    refine IF (fun h20 => ?_) fun h20 => ?_
    · replace h20 : t.kind = 10 := Zch h20
      have hb10 := sh10s h20 hx
      refine AU ?_
      refine Y2 J Ymb J J (CxM.to (KB hb10) [b3, b4, b5] h he hc hk0 hb hn (E.ltm (by simp [selB])) g.size) ((fun ch w' hz => Bad.pass hz (by rw [Ukd h20]; exact Er.refl _) (Aaa _) g)) ?_
      rintro v338 w338 ⟨⟨p338, c338, rfl, q338, k338⟩, he338, h, g338⟩
      refine ⟨nw1, ?_⟩
      have g := gtw g g338
      replace E := E.gtx g338
      refine AS fun _ ga Ca g E => ?_
      first | have h := h.keep ga Ca (by omega) (.inl rfl) | have h := h.keep ga Ca (by omega) (.inr ⟨by simp, fun hm => by have := htb2 _ hm; omega⟩)
      have k338 := k338.keep ga (by first | exact .inl (by omega) | exact .inr (by simp))
      refine RTN ?_
      rw [Ukd h20]; exact ⟨he338, Xh rfl (k338.kdN q338), h, g⟩
    exfalso
    replace h20 : t.kind ≠ 10 := Zdh h20
    have hx := (Aea.1 hx).1
    unfold stK at hx
    rw [Qwa] at hx
    simp only [Aoa, Apa, or_false] at hx
    omega
    done
section
variable {F t:Nd} {S:CSt}
theorem ex_24(h:t.kind=24):(ckT F t).ex S=(annT t [] tInt,S):=by rw [Xfb];unfold exR;rw [h];rfl
theorem ex_25(h:t.kind=25):(ckT F t).ex S=(annT t [] tBool,S):=by rw [Xfb];unfold exR;rw [h];rfl
theorem ex_26(h:t.kind=26):(ckT F t).ex S=(annT t [] tNil,S):=by rw [Xfb];unfold exR;rw [h];rfl
theorem ex_38(h:t.kind=38)(hl:t.kids.length=1):(ckT F t).ex S=(annT t [((ckT F (Za t 0)).blk (litS S)).1] tFunc,{ ((ckT F (Za t 0)).blk (litS S)).2 with level:=((ckT F (Za t 0)).blk (litS S)).2.level-1,result:=S.result }):=by
 rw [Xfb,← Xx (F:=F) (show 0<t.kids.length by omega)];unfold exR;rw [h];rfl
theorem ex_30(h:t.kind=30):(ckT F t).ex S=callR t (ckX F t) S:=by rw [Xfb];unfold exR;rw [h];rfl
theorem ex_27(h:t.kind=27):(ckT F t).ex S=((lookR F S t).1,bif (lookR F S t).2 then failU (Vl (lookR F S t).1.ty) t.pos 7 S else failS t.pos 5 S):=by rw [Xfb];unfold exR;rw [h];rfl
theorem ex_34(h:t.kind=34):(ckT F t).ex S=(annT t [] ⟨4,t.text⟩,failU (!decide ((findD F 2 t.text).2<0)) t.pos 5 S):=by rw [Xfb];unfold exR;rw [h];rfl
theorem Zzg{x:Nat→Ck}:memR F t x S=((annT t [((x 0).ex S).1] (fldR F ((x 0).ex S).1.ty t.text).1,(fldR F ((x 0).ex S).1.ty t.text).2.2),bif (fldR F ((x 0).ex S).1.ty t.text).2.1 then (bif (fldR F ((x 0).ex S).1.ty t.text).2.2 then ((x 0).ex S).2 else failS t.pos 5 ((x 0).ex S).2) else failS t.pos 7 ((x 0).ex S).2):=by
 unfold memR fldR;dsimp only;cases decide (((x 0).ex S).1.ty.kind=4);rfl;simp only [Zfh];cases (Ug F ((x 0).ex S).1.ty.name).1.find? fun f=>decide (f.name=t.text) <;> rfl
theorem ex_28(h:t.kind=28)(hl:t.kids.length=1):(ckT F t).ex S=(annT t [((ckT F (Za t 0)).ex S).1] (fldR F ((ckT F (Za t 0)).ex S).1.ty t.text).1,failU (!((fldR F ((ckT F (Za t 0)).ex S).1.ty t.text).2.2 && !Vl (fldR F ((ckT F (Za t 0)).ex S).1.ty t.text).1)) t.pos 7
 (bif (fldR F ((ckT F (Za t 0)).ex S).1.ty t.text).2.1 then (bif (fldR F ((ckT F (Za t 0)).ex S).1.ty t.text).2.2 then ((ckT F (Za t 0)).ex S).2 else failS t.pos 5 ((ckT F (Za t 0)).ex S).2) else failS t.pos 7 ((ckT F (Za t 0)).ex S).2)):=by
 rw [Xfb F t,Zwe S h,Zzg,Xx (show 0<t.kids.length by omega)];rfl
theorem Qac(h:t.kind=29∨t.kind=31∨t.kind=32∨t.kind=33∨t.kind=37∨t.kind=35∨t.kind=36):(ckT F t).ex S=opR t (ckX F t) S:=by
 rw [Xfb];unfold exR;rcases h with h|h|h|h|h|h|h <;> (rw [h];rfl)
theorem ex_29(h:t.kind=29)(hl:t.kids.length=2):(ckT F t).ex S=(annT t [((ckT F (Za t 0)).ex S).1,((ckT F (Za t 1)).ex (wantS ((ckT F (Za t 0)).ex S).1 5 (Za t 0).pos ((ckT F (Za t 0)).ex S).2)).1] tInt,wantS ((ckT F (Za t 1)).ex (wantS ((ckT F (Za t 0)).ex S).1 5 (Za t 0).pos ((ckT F (Za t 0)).ex S).2)).1 1 (Za t 1).pos ((ckT F (Za t 1)).ex (wantS ((ckT F (Za t 0)).ex S).1 5 (Za t 0).pos ((ckT F (Za t 0)).ex S).2)).2):=by
 rw [Qac (.inl h),← Xx (F:=F) (show 0<t.kids.length by omega),← Xx (F:=F) (show 1<t.kids.length by omega)];unfold opR;rw [h];rfl
theorem ex_31(h:t.kind=31)(hl:t.kids.length=1):(ckT F t).ex S=(annT t [((ckT F (Za t 0)).ex S).1] (unTy t),wantS ((ckT F (Za t 0)).ex S).1 (unTy t).kind t.pos ((ckT F (Za t 0)).ex S).2):=by
 rw [Qac (.inr (.inl h)),← Xx (F:=F) (show 0<t.kids.length by omega)];unfold opR;rw [h];rfl
theorem ex_32(h:t.kind=32)(hl:t.kids.length=2):(ckT F t).ex S=(annT t [((ckT F (Za t 0)).ex S).1,((ckT F (Za t 1)).ex ((ckT F (Za t 0)).ex S).2).1] (binT t.text ((ckT F (Za t 0)).ex S).1.ty ((ckT F (Za t 1)).ex ((ckT F (Za t 0)).ex S).2).1.ty).1,failU (binT t.text ((ckT F (Za t 0)).ex S).1.ty ((ckT F (Za t 1)).ex ((ckT F (Za t 0)).ex S).2).1.ty).2 t.pos 7 ((ckT F (Za t 1)).ex ((ckT F (Za t 0)).ex S).2).2):=by
 rw [Qac (.inr (.inr (.inl h))),← Xx (F:=F) (show 0<t.kids.length by omega),← Xx (F:=F) (show 1<t.kids.length by omega)];unfold opR;rw [h];rfl
theorem ex_33(h:t.kind=33)(hl:t.kids.length=1):(ckT F t).ex S=(annT t [((ckT F (Za t 0)).ex S).1] tInt,wantS ((ckT F (Za t 0)).ex S).1 6 t.pos ((ckT F (Za t 0)).ex S).2):=by
 rw [Qac (.inr (.inr (.inr (.inl h)))),← Xx (F:=F) (show 0<t.kids.length by omega)];unfold opR;rw [h];rfl
theorem ex_37(h:t.kind=37)(hl:t.kids.length=1):(ckT F t).ex S=(annT t [((ckT F (Za t 0)).ex S).1] tInt,wantS ((ckT F (Za t 0)).ex S).1 5 (Za t 0).pos ((ckT F (Za t 0)).ex S).2):=by
 rw [Qac (.inr (.inr (.inr (.inr (.inl h))))),← Xx (F:=F) (show 0<t.kids.length by omega)];unfold opR;rw [h];rfl
theorem ex_35(h:t.kind=35)(hl:t.kids.length=1):(ckT F t).ex S=(annT t [((ckT F (Za t 0)).ex S).1] ⟨5,[]⟩,wantS ((ckT F (Za t 0)).ex S).1 1 (Za t 0).pos ((ckT F (Za t 0)).ex S).2):=by
 rw [Qac (.inr (.inr (.inr (.inr (.inr (.inl h)))))),← Xx (F:=F) (show 0<t.kids.length by omega)];unfold opR;rw [h];rfl
theorem ex_36(h:t.kind=36)(hl:t.kids.length=1):(ckT F t).ex S=(annT t [((ckT F (Za t 0)).ex S).1] ⟨6,[]⟩,wantS ((ckT F (Za t 0)).ex S).1 1 (Za t 0).pos ((ckT F (Za t 0)).ex S).2):=by
 rw [Qac (.inr (.inr (.inr (.inr (.inr (.inr h)))))),← Xx (F:=F) (show 0<t.kids.length by omega)];unfold opR;rw [h];rfl
end
theorem RowAt.kb{w w':Aa}{b o j:Nat}{l:List Da}(h:RowAt w b o l)(hg:w.grownBy w' (some j))(hne:b≠j):RowAt w' b o l:=fun i v hi =>
 (Fa (hg.block _ (Ea w _ (h i v hi)) (fun e=>hne (by injection e)))).trans (h i v hi)
structure GTO (M:Nat→Nat→Bool) (n0:Nat) (L:List Nat) (w w':Aa):Prop where
  os:w'.os=w.os
  tape:w'.tape=w.tape
  output:w'.output=w.output
  size:w.heap.size≤w'.heap.size
  block:∀ k,k<w.heap.size→k∉L→(k<n0∨¬ TyR M w k)→w'.heap[k]? = w.heap[k]?
section
variable {M:Nat→Nat→Bool} {n0:Nat} {L:List Nat} {w w':Aa}
theorem GTO.refl(w:Aa):GTO M n0 L w w:=⟨rfl,rfl,rfl,Aaa _,fun _ _ _ _=>rfl⟩
theorem GTO.trans{u v w:Aa}(h:GTO M n0 L u v)(k:GTO M n0 L v w):GTO M n0 L u w :=
 ⟨k.os.trans h.os,k.tape.trans h.tape,k.output.trans h.output,Nat.le_trans h.size k.size,fun i hi hn hb=>by
 have e:=h.block i hi hn hb;refine (k.block i (Aua hi h.size) hn (hb.imp id fun hb hr=>hb ?_)).trans e;obtain ⟨cs,f,fr,hr,hm⟩:=hr;exact ⟨cs,f,fr,e.symm.trans hr,hm⟩⟩
theorem GTO.of_gt(g:GT M n0 w w'):GTO M n0 L w w':=⟨g.os,g.tape,g.output,g.size,fun k hk _ hb=>g.block k hk hb⟩
theorem GTO.of_g(g:G w w'):GTO M n0 L w w':=GTO.of_gt (GT.of_g g)
theorem GTO.of_row{b:Nat}(hg:w.grownBy w' (some b))(hb:b∈L):GTO M n0 L w w':=⟨hg.os,hg.tape,hg.output,hg.size,fun k hk hn _=>hg.block k hk fun e=>hn (by injection e with e;rw [e];exact hb)⟩
theorem Blk.gto{b:Nat}{e:Ba}{l:List Da}(h:Blk w b e l)(g:GTO M n0 L w w')(he:M e=fun _=>false)(hn:b∉L):Blk w' b e l:=(g.block b h.lt hn (.inr (Wub h he))).trans h
theorem RowAt.gto{b o:Nat}{l:List Da}(h:RowAt w b o l)(g:GTO M n0 L w w')(hb:b<n0)(hn:b∉L):RowAt w' b o l:=fun i v hi =>
 (Fa (g.block b (Ea w _ (h i v hi)) hn (.inl hb))).trans (h i v hi)
end
@[reducible] def gtoR(X:List Nat)(n0:Nat)(L:List Nat):RelX:=⟨fun w w'=>GTO (mutC X) n0 L w w',GTO.refl,fun h k=>GTO.trans h k⟩
theorem bad_5{F:Nd}{n0 b:Nat}{TB X:List Nat}{r0:List Ty}{S T:CSt}{w w0 w1:Aa}{a:Int}{ch:List PanicEntry}(h:PC F n0 b TB X (some r0) S w)(he:S.ee=0)(hE:Er (failS a 5 S) T)(h1:ch=[failE a 5])(h2:G w w1)(g:GT (mutC X) n0 w0 w):Bad n0 b X (S.scope+1) T w0 ch w1 :=
 Un (q:=false) h he Od hE ⟨rfl,h1,h2⟩ g (Aaa _)
theorem Xud{F t:Nd}(HS:CxM 1000001 F 57 t (ckT F t).sts){n0 b:Nat}{TB X:List Nat}{r0:List Ty}{S:CSt}{w:Aa}{v:Da}{N m0:Nat}(Z:List Nat)(h:PC F n0 b TB X (some r0) S w)(he:S.ee=0)(hc:CanV S)(hk:Kd w (fun k=>k<n0) t.kids v)(hb:Bd S N)(hn:N+count t+1≤1000000)(hZ:∀ j∈Z,j<w.heap.size)(hm:m0≤w.heap.size) :
 RetP PP 137 #[.pointer (some ⟨b,0,none⟩),ndV t v,tyV ty0] w (fun r w'=>(∃ p c,r=ndV ((ckT F t).blk (litS S)).1 (.slice p ((ckT F t).blk (litS S)).1.kids.length c)∧m0≤w.heap.size∧KdX w.heap.size Z w' ((ckT F t).blk (litS S)).1.kids (.slice p ((ckT F t).blk (litS S)).1.kids.length c))∧((ckT F t).blk (litS S)).2.ee=0∧PC F n0 b TB X (some r0) { ((ckT F t).blk (litS S)).2 with level:=((ckT F t).blk (litS S)).2.level-1,result:=S.result } w'∧GT (mutC X) n0 w w') (Bad n0 b X (S.scope+1) ((ckT F t).blk (litS S)).2 w) :=
 (Xrd HS h he hc hk hb hn).mono (fun r w' hr=>by
 obtain ⟨h0,⟨p,c,e,k⟩,h1,h2⟩:=hr;exact ⟨⟨p,c,e,hm,KdN.x k hZ⟩,h0,h1,h2⟩) fun _ _ h=>h
theorem op_k{t:Nd}(hx:exprB t=true)(h24:t.kind≠24)(h25:t.kind≠25)(h26:t.kind≠26)(h38:t.kind≠38)(h30:t.kind≠30)(h27:t.kind≠27)(h28:t.kind≠28)(h34:t.kind≠34):t.kind∈([29,31,32,33,35,36,37]:List Int):=by
 have hx:=(Aea.1 hx).1;unfold expK at hx;rw [Qwa] at hx;simp only [Aoa,Apa,or_false] at hx ⊢;omega
theorem Wvf{F t:Nd}(HF:FW F)(hx:exprB t=true)(KE:∀ i,i<t.kids.length→exprB (Za t i)=true→CxM 1000000 F 113 (Za t i) (ckT F (Za t i)).ex)(KL:t.kind=38→CxM 1000001 F 57 (Za t 0) (ckT F (Za t 0)).sts)(KK:t.kind=30→CxM 1000000 F 141 t (callR t (ckX F t))):CxM 1000000 F 113 t (ckT F t).ex:=by
 intro n0 b TB X r0 S w v N h he hc hkw hb hn;obtain ⟨p,c,rfl,hcap,_⟩:=id hkw;have hk0:=hkw;have hlt:=h.lt;have htb:=h.tb;have hs:=h.scs;have htb2:∀ j∈TB,j<w.heap.size:=fun j hj=>htb.2 j (htb.1 j hj)
 have hcS:∀ i,i<t.kids.length→sC t i+count (Za t i)+1≤count t:=fun i hi=>by
  have h1:=Uca t (i+1);have h2:=Xya hi;have h3:sC t (i+1)=sC t i+cN t i:=rfl;omega
 have hkl:=Wu t;have hs1:sC t 1=0+cN t 0:=rfl;have g:=GT.refl (mutC X) n0 w;refine Vd (m:=254) Tryz.func113 J J [(0,True,_),(1,True,_)] (Zb J (Zb J (Zq _))) ?_;refine BM fun b3 _ ga _ g E=>?_;have hp3:=h;have nlt3:=ga.blk.lt;have h:=Ui h;have hk0:=Ui hk0;refine AN fun b4 _ ga _ g E=>?_;have hp4:=h;have nlt4:=ga.blk.lt;have h:=Ui h;have hk0:=Ui hk0;refine AU ?_;refine CL (Jr t _ _ _) ?_;rintro _ _ ⟨rfl,ga⟩;refine RC fun g E=>?_;have h:=Uk h;have hk0:=Uk hk0;refine AN fun b5 _ ga _ g E=>?_;have hp5:=h;have nlt5:=ga.blk.lt;have h:=Ui h;have hk0:=Ui hk0;refine AS fun _ ga Ca g E=>?_;first|have h:=h.keep ga Ca O (.inl rfl)|have h:=h.keep ga Ca O (.inr ⟨by simp,fun hm=>by have:=htb2 _ hm;omega⟩)
 have hk0:=Ud hk0;refine IF (fun h1=>?_) fun h1=>?_
 ·replace h1:t.kind=24:=Zch h1
  have ef:=ex_24 (F:=F) (S:=S) h1;refine Zn (Va Zj J J h.laid.hC.1 (Xa Yh J (Xb J Xk (Zc J) (Zc J) J J E.g0 J J ?_)));intro wS2 hgS2 _ BS;have C5:=E.g0;replace E:=E.s0 hgS2 BS;have g:=Yb g hgS2 O;first|have h:=h.keep hgS2 C5 O (.inl rfl)|have h:=h.keep hgS2 C5 O (.inr ⟨by simp,fun hm=>by have:=htb2 _ hm;omega⟩)
  refine AS fun _ ga Ca g E=>?_;first|have h:=h.keep ga Ca O (.inl rfl)|have h:=h.keep ga Ca O (.inr ⟨by simp,fun hm=>by have:=htb2 _ hm;omega⟩)
  refine RTN ?_;rw [ef];exact ⟨he,Xh (t:=annT t [] tInt) rfl (Yyb _ _),h,g⟩
 replace h1:t.kind≠24:=Zdh h1;refine IF (fun h2=>?_) fun h2=>?_
 ·replace h2:t.kind=25:=Zch h2
  have ef:=ex_25 (F:=F) (S:=S) h2;refine Zn (Va Zj J J h.laid.hC.2.1 (Xa Yh J (Xb J Xk (Zc J) (Zc J) J J E.g0 J J ?_)));intro wS4 hgS4 _ BS;have C5:=E.g0;replace E:=E.s0 hgS4 BS;have g:=Yb g hgS4 O;first|have h:=h.keep hgS4 C5 O (.inl rfl)|have h:=h.keep hgS4 C5 O (.inr ⟨by simp,fun hm=>by have:=htb2 _ hm;omega⟩)
  refine AS fun _ ga Ca g E=>?_;first|have h:=h.keep ga Ca O (.inl rfl)|have h:=h.keep ga Ca O (.inr ⟨by simp,fun hm=>by have:=htb2 _ hm;omega⟩)
  refine RTN ?_;rw [ef];exact ⟨he,Xh (t:=annT t [] tBool) rfl (Yyb _ _),h,g⟩
 replace h2:t.kind≠25:=Zdh h2;refine IF (fun h3=>?_) fun h3=>?_
 ·replace h3:t.kind=26:=Zch h3
  have ef:=ex_26 (F:=F) (S:=S) h3;refine Zn (Va Zj J J h.laid.hC.2.2.1 (Xa Yh J (Xb J Xk (Zc J) (Zc J) J J E.g0 J J ?_)));intro wS6 hgS6 _ BS;have C5:=E.g0;replace E:=E.s0 hgS6 BS;have g:=Yb g hgS6 O;first|have h:=h.keep hgS6 C5 O (.inl rfl)|have h:=h.keep hgS6 C5 O (.inr ⟨by simp,fun hm=>by have:=htb2 _ hm;omega⟩)
  refine AS fun _ ga Ca g E=>?_;first|have h:=h.keep ga Ca O (.inl rfl)|have h:=h.keep ga Ca O (.inr ⟨by simp,fun hm=>by have:=htb2 _ hm;omega⟩)
  refine RTN ?_;rw [ef];exact ⟨he,Xh (t:=annT t [] tNil) rfl (Yyb _ _),h,g⟩
 replace h3:t.kind≠26:=Zdh h3;refine IF (fun h4=>?_) fun h4=>?_
 ·replace h4:t.kind=38:=Zch h4
  obtain ⟨hl,z0⟩:=sh38 h4 hx;have hc0:=hcS 0 O;have ef:=ex_38 (F:=F) (S:=S) h4 hl;obtain ⟨hpe,p_38,c_38,hcell,hkid⟩:=Yr hk0 (i:=0) O;refine AU ?_;refine Y3 J Jea J J J (Xud (KL h4) [b3,b4,b5] h he hc hkid hb O (E.ltm Ob) g.size) ((fun ch w' hz=>Bad.pass hz (by rw [ef];exact Er.refl _) (Aaa _) g)) ?_;rintro v41 w41 ⟨⟨p41,c41,rfl,q41,k41⟩,he41,h,g41⟩;refine ⟨nw1,?_⟩;have g:=gtw g g41;replace E:=E.gtx g41;refine CN fun _ _ ga l42 g E=>?_;have hp42:=h;have nlt42:=ga.blk.lt;have k41:=Uj k41;have h:=Ui h;refine AS fun _ ga Ca g E=>?_;first|have h:=h.keep ga Ca O (.inl rfl)|have h:=h.keep ga Ca O (.inr ⟨by simp,fun hm=>by have:=htb2 _ hm;omega⟩)
  have k41:=k41.keep ga Oi;refine Ze (kq (Zn (Va Zj J J h.laid.hC.2.2.2.2.2 (Xa Yh J (Xb J Xk (Zc J) (Zc J) J J E.g1 J J ?_)))));intro wS9 hgS9 _ BS;have C5:=E.g1;replace E:=E.s1 hgS9 BS;have g:=Yb g hgS9 O;first|have h:=h.keep hgS9 C5 O (.inl rfl)|have h:=h.keep hgS9 C5 O (.inr ⟨by simp,fun hm=>by have:=htb2 _ hm;omega⟩)
  have k41:=k41.keep hgS9 Oi;refine AS fun _ ga Ca g E=>?_;first|have h:=h.keep ga Ca O (.inl rfl)|have h:=h.keep ga Ca O (.inr ⟨by simp,fun hm=>by have:=htb2 _ hm;omega⟩)
  have k41:=k41.keep ga Oi;refine RTN ?_;rw [ef];exact ⟨he41,Xh (t:=annT t [_] tFunc) rfl (Zsa (ks:=[_]) ⟨l42,Jp E.g0⟩ E.g0.row (Ve (k41.kdN q41)) (Aaa _)),h,g⟩
 replace h4:t.kind≠38:=Zdh h4;refine IF (fun h5=>?_) fun h5=>?_
 ·replace h5:t.kind=27:=Zch h5
  have ef:=ex_27 (F:=F) (S:=S) h5;have hnum:numS t=0:=by unfold numS Wj;rw [Jxg O,Jxg O];rfl
  refine AU ?_;refine Y2 J Jx J J (Xgc t _ _ h hb O HF.res hnum) ((fun ch w' hz=>bad_5 h he (by rw [ef,hz.1];exact Er.refl _) hz.2.1 hz.2.2 g)) ?_;rintro _ _ ⟨hl50,rfl,ga⟩;refine RC fun g E=>?_;have h:=Uk h;rw [hl50] at ef;refine AS fun _ ga Ca g E=>?_;first|have h:=h.keep ga Ca O (.inl rfl)|have h:=h.keep ga Ca O (.inr ⟨by simp,fun hm=>by have:=htb2 _ hm;omega⟩)
  refine AU ?_;refine Yx (rowR none) [3,0,1,3,0,1] [0,1,3,0,8,31] mix KR [0,1,2,3,4,5] J ?_;have g:=gtd g;replace E:=E.dr;have h:=h.grow (G.drew _);refine Zr 0 J J (fun _=>Zh Yh (Zc J)) (Yg 1 J J (fun w1 hx=>Zo Zj (Zc J) J (fun _=>(E.g0.keep hx (fun h=>nomatch h)).row.part 5 2)) (Zr 3 J J (fun _=>Zh Xp (Zc J)) (Yg 4 J J (fun w1 hx=>Zt Yf (Zc J) (fun _=>(E.g2.keep hx (fun h=>nomatch h)).at_ J)) (Zm 2 J J ?_))));refine Zl (L':=[5]) [3,0,1,3,0,1] J J J ?_;refine CP (Wfa (lookR F S t).1.ty _ h.laid.hL h.laid.hb) (fun w53 g53=>?_);have g:=gtg g g53;replace E:=E.grow g53;have h:=h.grow (g53);refine Zs ((g53).only _) ?_;refine Zm 5 J J ?_;refine Zl (L':=[]) [3,0,1,3,0,1] J J J ?_;refine Y3 J Yd J J J (Wy _ _ _ _) ((fun ch w' hz=>Un h he Od (by rw [ef];exact Er.refl _) hz g (Aaa _))) ?_;rintro v56 w56 ⟨rfl,hq56,g56⟩;refine ⟨fun _=>g56,?_⟩;have g:=gtg g g56;replace E:=E.grow g56;have h:=h.grow (g56);rw [hq56] at ef;refine Zs ((g56).only _) ?_;refine TK [4,5] ?_;refine AS fun _ ga Ca g E=>?_;first|have h:=h.keep ga Ca O (.inl rfl)|have h:=h.keep ga Ca O (.inr ⟨by simp,fun hm=>by have:=htb2 _ hm;omega⟩)
  refine RTN ?_;rw [ef];exact ⟨he,Yzc _ _ _ (Xhc F S t),h,g⟩
 replace h5:t.kind≠27:=Zdh h5;refine IF (fun h6=>?_) fun h6=>?_
 ·replace h6:t.kind=28:=Zch h6
  obtain ⟨_,hl,z0⟩:=sh28 h6 hx;have hc0:=hcS 0 O;have ef:=ex_28 (F:=F) (S:=S) h6 hl;have hst:=(Uh F (Za t 0)).ex S;have hcT:=((Jma F (Za t 0)).ex S hs).can hc;obtain ⟨hpe,p_62,c_62,hcell,hkid⟩:=Yr hk0 (i:=0) O;refine AU ?_;refine Y2 J Xj J J (CxM.to (KE 0 O z0) [b3,b4,b5] h he hc hkid hb O (E.ltm Ob) g.size) ((fun ch w' hz=>Bad.pass hz (by rw [ef];exact (Er.if1 ((Er.refl _).if1 ((Er.refl _).fail _ _)) ((Er.refl _).fail _ _)).failu _ _ _) (Aaa _) g)) ?_;rintro v64 w64 ⟨⟨p64,c64,rfl,q64,k64⟩,he64,h,g64⟩;refine ⟨nw1,?_⟩;have g:=gtw g g64;replace E:=E.gtx g64;refine AN fun _ _ ga _ g E=>?_;have hp6:=h;have nlt6:=ga.blk.lt;have k64:=Uj k64;have h:=Ui h;refine AS fun _ ga Ca g E=>?_;first|have h:=h.keep ga Ca O (.inl rfl)|have h:=h.keep ga Ca O (.inr ⟨by simp,fun hm=>by have:=htb2 _ hm;omega⟩)
  have k64:=k64.keep ga Oi;refine AU ?_;refine CL (Zbd ((ckT F (Za t 0)).ex S).1 _ t.text h) ?_;rintro _ _ ⟨rfl,ga⟩;refine RC fun g E=>?_;have h:=Uk h;have k64:=Uk k64;refine AN fun _ _ N7 _ g E=>?_;have hp7:=h;have nlt7:=N7.blk.lt;have k64:=k64.new N7;have h:=h.grow (N7.g);have h:=hp7.addX N7;refine AS fun _ ga Ca g E=>?_;first|have h:=h.keep ga Ca O (.inl rfl)|have h:=h.keep ga Ca O (.inr ⟨by simp,fun hm=>by have:=htb2 _ hm;omega⟩)
  have k64:=k64.keep ga Oi;refine AU ?_;refine Y3 J Yd J J J (Wy _ _ _ _) ((fun ch w' hz=>Un (h.sub (Y:=X) htb.1 (by intro j hj;simp [hj])) he64 Od (by rw [ef,hz.1];exact (Er.refl _).failu _ _ _) hz g (by rw [hst.scope];exact Aaa _))) ?_;rintro _ _ ⟨rfl,hq77,ga⟩;refine RC fun g E=>?_;have h:=Uk h;have k64:=Uk k64;rw [hq77,Zfh] at ef;refine AU ?_;refine Y3 J Yd J J J (Wy _ _ _ _) ((fun ch w' hz=>Un (h.sub (Y:=X) htb.1 (by intro j hj;simp [hj])) he64 Od (by rw [ef,hz.1];exact (Er.refl _).failu _ _ _) hz g (by rw [hst.scope];exact Aaa _))) ?_;rintro _ _ ⟨rfl,hq81,ga⟩;refine RC fun g E=>?_;have h:=Uk h;have k64:=Uk k64;rw [hq81,Zfh,Aka,Bool.not_not] at ef;refine AU ?_;refine Yx (rowR none) [0,1,3,0,1] [0,1,0,4,15] mix KR [0,1,2,3,4] J ?_;have g:=gtd g;replace E:=E.dr;have h:=h.grow (G.drew _);have k64:=k64.grow (G.drew _);refine Yg 0 J J (fun w1 hx=>Zo Zj (Zc J) J (fun _=>(E.g0.keep hx (fun h=>nomatch h)).row)) (Zr 2 J J (fun _=>Zh Xp (Zc J)) (Yg 3 J J (fun w1 hx=>Zt Yf (Zc J) (fun _=>(E.g4.keep hx (fun h=>nomatch h)).at_ J)) (Zm 1 J J ?_)));refine Zl (L':=[4]) [0,1,3,0,1] J J J ?_;refine CP (Wfa (fldR F ((ckT F (Za t 0)).ex S).1.ty t.text).1 _ h.laid.hL h.laid.hb) (fun w83 g83=>?_);have g:=gtg g g83;replace E:=E.grow g83;have h:=h.grow (g83);have k64:=k64.grow (g83);refine Zs ((g83).only _) ?_;refine Zm 4 J J ?_;refine Zl (L':=[]) [0,1,3,0,1] J J J ?_;refine Y3 J Yd J J J (Wy _ _ _ _) ((fun ch w' hz=>Un (h.sub (Y:=X) htb.1 (by intro j hj;simp [hj])) he64 Od (by rw [ef];exact Er.refl _) hz g (by rw [hst.scope];exact Aaa _))) ?_
  rintro v86 w86 ⟨rfl,hq86,g86⟩;refine ⟨fun _=>g86,?_⟩;have g:=gtg g g86;replace E:=E.grow g86;have h:=h.grow (g86);have k64:=k64.grow (g86);rw [hq86] at ef;refine Zs ((g86).only _) ?_;refine TK [4,5,6,7] ?_;refine AU ?_;refine Yx (rowR (some b5)) [0,1,0,3,1,3,1] [0,1,0,3,11,31,63] mix KR [0,1,2,3,4,5,6] J ?_;have g:=gtd g;replace E:=E.dr;have h:=h.grow (G.drew _);have k64:=k64.grow (G.drew _);refine Yg 0 J J (fun w1 hx=>Zo Zf (Zc J) J (fun _=>(E.g1.keep hx (fun h=>E.ne 1 2 J J J (Option.some.inj h))).row)) (Yg 2 J J (fun w1 hx=>Zo Zj (Zc J) J (fun _=>(E.g0.keep hx (fun h=>E.ne 0 2 J J J (Option.some.inj h))).row)) (Zm 1 J J ?_));refine Zl (L':=[3,4,5,6]) [0,1,0,3,2,3,2] J J J ?_;refine CN fun _ _ N88 l88 g E=>?_;have hp88:=h;have nlt88:=N88.blk.lt;have k64:=k64.new N88;have h:=h.grow (N88.g);refine Zs ((N88.g).only _) ?_;refine Zr 3 J J (fun _=>Zh Zg (Zc J)) (Zm 4 J J ?_);refine Zl (L':=[5,6]) [0,1,0,3,2,3,2] J J J ?_;refine AS fun _ hgS15 Ca g E=>?_;first|have h:=h.keep hgS15 Ca O (.inl rfl)|have h:=h.keep hgS15 Ca O (.inr ⟨by simp,fun hm=>by have:=htb2 _ hm;omega⟩)
  have k64:=k64.keep hgS15 Oi;refine Zs (hgS15) ?_;refine Zr 5 J J (fun _=>Zh Yh (Zc J)) (Zm 6 J J ?_);refine Zl (L':=[]) [0,1,0,3,2,3,2] J J J ?_;refine Xb J Xk (Zc J) (Zc J) J J E.g3 J J ?_;intro wS16 hgS16 _ BS;have C5:=E.g3;replace E:=E.s3 hgS16 BS;have g:=Yb g hgS16 O;first|have h:=h.keep hgS16 C5 O (.inl rfl)|have h:=h.keep hgS16 C5 O (.inr ⟨by simp,fun hm=>by have:=htb2 _ hm;omega⟩)
  have k64:=k64.keep hgS16 Oi;refine Zs (hgS16) ?_;refine TK [4,5] ?_;refine AS fun _ ga Ca g E=>?_;first|have h:=h.keep ga Ca O (.inl rfl)|have h:=h.keep ga Ca O (.inr ⟨by simp,fun hm=>by have:=htb2 _ hm;omega⟩)
  have k64:=k64.keep ga Oi;refine RTN ?_;rw [ef];exact ⟨he64,Xh (t:=annT t [_] _) rfl (Zsa (ks:=[_]) ⟨l88,Jp E.g0⟩ E.g0.row (Ve (k64.kdN q64)) (Aaa _)),h.sub htb.1 (by intro j hj;simp [hj]),g⟩
 replace h6:t.kind≠28:=Zdh h6;refine IF (fun h7=>?_) fun h7=>?_
 ·replace h7:t.kind=29:=Zch h7
  obtain ⟨hl,z0,z1⟩:=sh29 h7 hx;have hc0:=hcS 0 O;have hc1:=hcS 1 O;have hs2:cN t 0=count (Za t 0):=Xya O;have ef:=ex_29 (F:=F) (S:=S) h7 hl;have hst:=(Uh F (Za t 0)).ex S;have hcT:=((Jma F (Za t 0)).ex S hs).can hc;refine AU ?_;refine Yx (rowR none) [3,3,0,3,0,0,2,1,2] [0,0,2,6,14,0,63,0,255] mix KR [0,1,2,3,4,5,6,7,8] J ?_;have g:=gtd g;replace E:=E.dr;have h:=h.grow (G.drew _);have hk0:=hk0.grow (G.drew _);refine Zr 0 J J (fun _=>Zw (Zc J)) (Zr 1 J J (fun _=>Zh Zg (Zc J)) (Yg 2 J J (fun w1 hx=>Zt Zi (Zc J) (fun _=>(E.g2.keep hx (fun h=>nomatch h)).at_ J)) (?_)));obtain ⟨hpe,p_97,c_97,hcell,hkid⟩:=Yr hk0 (i:=0) O;refine Zr 3 J J (fun _=>Xr Zd (Zc J) Xv (fun _=>O) (fun _=>hpe)) (Yg 4 J J (fun w1 hx=>Zo Zf (Zc J) J (fun _=>by first|exact hcell.kn hx|exact hcell.gt hx (Vq hk0 (i:=0) O)|exact hcell.gto hx (Vq hk0 (i:=0) O) (by have:=Vq hk0 (i:=0) O;simp;omega))) (Yg 5 J J (fun w1 hx=>Zo Zj Jua J (fun _=>by first|exact h.laid.hC.2.2.2.1.kn hx|exact h.laid.hC.2.2.2.1.kb hx (by have:=h.laid.hG;omega)|exact h.laid.hC.2.2.2.1.gt hx (by have:=h.laid.hG;omega)|exact h.laid.hC.2.2.2.1.gto hx (by have:=h.laid.hG;omega) (by have:=h.laid.hG;simp;omega))) (Yib 6 7 J J ?_ ?_)))
  ·refine Ys (L':=[7,8]) [3,3,0,3,0,0,2,1,2] rfl rfl rfl rfl ?_
   refine Y3 J Yy J J J (Qw (k:=5) (KE 0 O z0) (Uea F _) Od [b3,b4,b5] h he hc hkid hb O (E.ltm Ob) g.size) ((fun ch w' hz=>Bad.pass hz (by rw [ef];exact ((Uh F (Za t 1)).ex _).e.failu _ _ _) (Aaa _) g)) ?_;rintro v100 w100 ⟨⟨p100,c100,rfl,q100,k100⟩,he100,eW,h,g100⟩;refine ⟨nw1,?_⟩;have g:=gtw g g100;replace E:=E.gtx g100;have hk0:=hk0.gt g100 (fun k h=>h);rw [eW] at he100 ef;have hb:=hst.bd _ hb;refine Xm ?_;refine Zm 7 J J ?_;refine Zl (L':=[8]) [3,3,0,3,0,0,2,1,2] J J J ?_;refine AN fun b10 _ N10 l10 g E=>?_;have hp10:=h;have nlt10:=N10.blk.lt;have k100:=k100.new N10;have h:=h.grow (N10.g);have hk0:=hk0.grow (N10.g);refine Zs ((N10.g).only _) ?_;refine Zm 8 J J ?_;refine Ys (L':=[]) [3,3,0,3,0,0,2,1,2] J J J J ?_;refine AS fun _ ga Ca g E=>?_;first|have h:=h.keep ga Ca O (.inl rfl)|have h:=h.keep ga Ca O (.inr ⟨by simp,fun hm=>by have:=htb2 _ hm;omega⟩)
   have hk0:=Ud hk0;have k100:=k100.keep ga Oi;refine Xm ?_;refine TK [0,3,4,5,10] ?_;refine AU ?_;refine Yx (gtoR X n0 [b5]) [0,3,3,0,3,0,0,1,1,0,3,1,3,1] [0,0,0,4,12,28,0,126,255,0,511,1535,4095,8191] mix KR [0,1,2,3,4,5,6,7,8,9,10,11,12,13] J ?_;have g:=gtd g;replace E:=E.dr;have h:=h.grow (G.drew _);have hk0:=hk0.grow (G.drew _);have hcell:=hcell.grow (G.drew _);have hkid:=hkid.grow (G.drew _);have k100:=k100.grow (G.drew _);refine Yg 0 J J (fun w1 hx=>Zo Zf (Zc J) J (fun _=>(E.g0.gto hx J (Uyc (E.ne 0 1 J J J) Uxc)).row)) (Zr 1 J J (fun _=>Zw (Zc J)) (Zr 2 J J (fun _=>Zh Zg (Zc J)) (Yg 3 J J (fun w1 hx=>Zt Zi (Zc J) (fun _=>(E.g3.gto hx J (Uyc (E.ne 3 1 J J J) Uxc)).at_ J)) (?_))));obtain ⟨hpe,p_105,c_105,hcell,hkid⟩:=Yr hk0 (i:=1) O
   refine Zr 4 J J (fun _=>Xr Zd (Zc J) Xv (fun _=>O) (fun _=>hpe)) (Yg 5 J J (fun w1 hx=>Zo Zf (Zc J) J (fun _=>by first|exact hcell.kn hx|exact hcell.gt hx (Vq hk0 (i:=1) O)|exact hcell.gto hx (Vq hk0 (i:=1) O) (by have:=Vq hk0 (i:=1) O;simp;omega))) (Yg 6 J J (fun w1 hx=>Zo Zj Jua J (fun _=>by first|exact h.laid.hC.1.kn hx|exact h.laid.hC.1.kb hx (by have:=h.laid.hG;omega)|exact h.laid.hC.1.gt hx (by have:=h.laid.hG;omega)|exact h.laid.hC.1.gto hx (by have:=h.laid.hG;omega) (by have:=h.laid.hG;simp;omega))) (Yg 9 J J (fun w1 hx=>Zo Zj Jua J (fun _=>by first|exact h.laid.hC.1.kn hx|exact h.laid.hC.1.kb hx (by have:=h.laid.hG;omega)|exact h.laid.hC.1.gt hx (by have:=h.laid.hG;omega)|exact h.laid.hC.1.gto hx (by have:=h.laid.hG;omega) (by have:=h.laid.hG;simp;omega))) (Zm 7 J J ?_))));refine Zl (L':=[8,10,11,12,13]) [0,3,3,0,3,0,0,2,1,0,3,2,3,2] J J J ?_;refine Y3 J Yy J J J (Qw (k:=1) (KE 1 O z1) (Uea F _) Od [b3,b4,b5,b10] h he100 hcT hkid hb O (E.ltm Ob) g.size) ((fun ch w' hz=>Bad.pass hz (by rw [ef];exact Er.refl _) (by rw [hst.scope];exact Aaa _) g)) ?_;rintro v108 w108 ⟨⟨p108,c108,rfl,q108,k108⟩,he108,eW2,h,g108⟩;refine ⟨nw1,?_⟩;have g:=gtw g g108;replace E:=E.gtx g108;have k100:=k100.gtc g108;rw [eW2] at he108 ef;refine Zs (GTO.of_gt g108) ?_;refine Zm 8 J J ?_;refine Zl (L':=[10,11,12,13]) [0,3,3,0,3,0,0,2,1,0,3,2,3,2] J J J ?_;refine CN fun _ _ N109 l109 g E=>?_;have hp109:=h;have nlt109:=N109.blk.lt;have k100:=k100.new N109;have k108:=k108.new N109;have h:=h.grow (N109.g);refine Zs (GTO.of_g (N109.g)) ?_
   refine Zr 10 J J (fun _=>Zh Zg (Zc J)) (Zm 11 J J ?_);refine Zl (L':=[12,13]) [0,3,3,0,3,0,0,2,1,0,3,2,3,2] J J J ?_;refine AS fun _ hgS19 Ca g E=>?_;first|have h:=h.keep hgS19 Ca O (.inl rfl)|have h:=h.keep hgS19 Ca O (.inr ⟨by simp,fun hm=>by have:=htb2 _ hm;omega⟩)
   have k100:=k100.keep hgS19 Oi;have k108:=k108.keep hgS19 Oi;refine Zs (GTO.of_row hgS19 Os) ?_;refine Zr 12 J J (fun _=>Zh Yh (Zc J)) (Zm 13 J J ?_);refine Zl (L':=[]) [0,3,3,0,3,0,0,2,1,0,3,2,3,2] J J J ?_;refine Xb J Xk (Zc J) (Zc J) J J E.g2 J J ?_;intro wS20 hgS20 _ BS;have C5:=E.g2;replace E:=E.s2 hgS20 BS;have g:=Yb g hgS20 O;first|have h:=h.keep hgS20 C5 O (.inl rfl)|have h:=h.keep hgS20 C5 O (.inr ⟨by simp,fun hm=>by have:=htb2 _ hm;omega⟩)
   have k100:=k100.keep hgS20 Oi;have k108:=k108.keep hgS20 Oi;refine Zs (GTO.of_row hgS20 Os) ?_;refine TK [4,5] ?_;refine AS fun _ ga Ca g E=>?_;first|have h:=h.keep ga Ca O (.inl rfl)|have h:=h.keep ga Ca O (.inr ⟨by simp,fun hm=>by have:=htb2 _ hm;omega⟩)
   have k100:=k100.keep ga Oi;have k108:=k108.keep ga Oi;refine RTN ?_;rw [ef];exact ⟨he108,Xh (t:=annT t [_,_] tInt) rfl (Zsa (ks:=[_,_]) ⟨l109,Jp E.g0⟩ E.g0.row (Qe (k100.kdN q100) (Ve (k108.kdN q108))) (Aaa _)),h,g⟩
  ·refine Zl (L':=[6,8]) [3,3,0,3,0,0,2,1,2] rfl rfl rfl ?_
   refine AN fun b10 _ N10 _ g E=>?_;have hp10:=h;have nlt10:=N10.blk.lt;have h:=h.grow (N10.g);have hk0:=hk0.grow (N10.g);have hcell:=hcell.grow (N10.g);have hkid:=hkid.grow (N10.g);refine Zs ((N10.g).only _) ?_;refine Zm 6 J J ?_;refine Ys (L':=[8]) [3,3,0,3,0,0,2,1,2] J J J J ?_;refine Y3 J Yy J J J (Qw (k:=5) (KE 0 O z0) (Uea F _) Od [b3,b4,b5] h he hc hkid hb O (E.ltm Ob) g.size) ((fun ch w' hz=>Bad.pass hz (by rw [ef];exact ((Uh F (Za t 1)).ex _).e.failu _ _ _) (Aaa _) g)) ?_;rintro v100 w100 ⟨⟨p100,c100,rfl,q100,k100⟩,he100,eW,h,g100⟩;refine ⟨nw1,?_⟩;have g:=gtw g g100;replace E:=E.gtx g100;have hk0:=hk0.gt g100 (fun k h=>h);rw [eW] at he100 ef;have hb:=hst.bd _ hb;refine Xm ?_;refine Zm 8 J J ?_;refine Ys (L':=[]) [3,3,0,3,0,0,2,1,2] J J J J ?_;refine AS fun _ ga Ca g E=>?_;first|have h:=h.keep ga Ca O (.inl rfl)|have h:=h.keep ga Ca O (.inr ⟨by simp,fun hm=>by have:=htb2 _ hm;omega⟩)
   have hk0:=Ud hk0;have k100:=k100.keep ga Oi;refine Xm ?_;refine TK [0,3,4,5,10] ?_;refine AU ?_;refine Yx (gtoR X n0 [b5]) [0,3,3,0,3,0,0,1,1,0,3,1,3,1] [0,0,0,4,12,28,0,126,255,0,511,1535,4095,8191] mix KR [0,1,2,3,4,5,6,7,8,9,10,11,12,13] J ?_;have g:=gtd g;replace E:=E.dr;have h:=h.grow (G.drew _);have hk0:=hk0.grow (G.drew _);have hcell:=hcell.grow (G.drew _);have hkid:=hkid.grow (G.drew _);have k100:=k100.grow (G.drew _);refine Yg 0 J J (fun w1 hx=>Zo Zf (Zc J) J (fun _=>(E.g0.gto hx J (Uyc (E.ne 0 1 J J J) Uxc)).row)) (Zr 1 J J (fun _=>Zw (Zc J)) (Zr 2 J J (fun _=>Zh Zg (Zc J)) (Yg 3 J J (fun w1 hx=>Zt Zi (Zc J) (fun _=>(E.g3.gto hx J (Uyc (E.ne 3 1 J J J) Uxc)).at_ J)) (?_))));obtain ⟨hpe,p_105,c_105,hcell,hkid⟩:=Yr hk0 (i:=1) O
   refine Zr 4 J J (fun _=>Xr Zd (Zc J) Xv (fun _=>O) (fun _=>hpe)) (Yg 5 J J (fun w1 hx=>Zo Zf (Zc J) J (fun _=>by first|exact hcell.kn hx|exact hcell.gt hx (Vq hk0 (i:=1) O)|exact hcell.gto hx (Vq hk0 (i:=1) O) (by have:=Vq hk0 (i:=1) O;simp;omega))) (Yg 6 J J (fun w1 hx=>Zo Zj Jua J (fun _=>by first|exact h.laid.hC.1.kn hx|exact h.laid.hC.1.kb hx (by have:=h.laid.hG;omega)|exact h.laid.hC.1.gt hx (by have:=h.laid.hG;omega)|exact h.laid.hC.1.gto hx (by have:=h.laid.hG;omega) (by have:=h.laid.hG;simp;omega))) (Yg 9 J J (fun w1 hx=>Zo Zj Jua J (fun _=>by first|exact h.laid.hC.1.kn hx|exact h.laid.hC.1.kb hx (by have:=h.laid.hG;omega)|exact h.laid.hC.1.gt hx (by have:=h.laid.hG;omega)|exact h.laid.hC.1.gto hx (by have:=h.laid.hG;omega) (by have:=h.laid.hG;simp;omega))) (Zm 7 J J ?_))));refine Zl (L':=[8,10,11,12,13]) [0,3,3,0,3,0,0,2,1,0,3,2,3,2] J J J ?_;refine Y3 J Yy J J J (Qw (k:=1) (KE 1 O z1) (Uea F _) Od [b3,b4,b5,b10] h he100 hcT hkid hb O (E.ltm Ob) g.size) ((fun ch w' hz=>Bad.pass hz (by rw [ef];exact Er.refl _) (by rw [hst.scope];exact Aaa _) g)) ?_;rintro v108 w108 ⟨⟨p108,c108,rfl,q108,k108⟩,he108,eW2,h,g108⟩;refine ⟨nw1,?_⟩;have g:=gtw g g108;replace E:=E.gtx g108;have k100:=k100.gtc g108;rw [eW2] at he108 ef;refine Zs (GTO.of_gt g108) ?_;refine Zm 8 J J ?_;refine Zl (L':=[10,11,12,13]) [0,3,3,0,3,0,0,2,1,0,3,2,3,2] J J J ?_;refine CN fun _ _ N109 l109 g E=>?_;have hp109:=h;have nlt109:=N109.blk.lt;have k100:=k100.new N109;have k108:=k108.new N109;have h:=h.grow (N109.g);refine Zs (GTO.of_g (N109.g)) ?_
   refine Zr 10 J J (fun _=>Zh Zg (Zc J)) (Zm 11 J J ?_);refine Zl (L':=[12,13]) [0,3,3,0,3,0,0,2,1,0,3,2,3,2] J J J ?_;refine AS fun _ hgS19 Ca g E=>?_;first|have h:=h.keep hgS19 Ca O (.inl rfl)|have h:=h.keep hgS19 Ca O (.inr ⟨by simp,fun hm=>by have:=htb2 _ hm;omega⟩)
   have k100:=k100.keep hgS19 Oi;have k108:=k108.keep hgS19 Oi;refine Zs (GTO.of_row hgS19 Os) ?_;refine Zr 12 J J (fun _=>Zh Yh (Zc J)) (Zm 13 J J ?_);refine Zl (L':=[]) [0,3,3,0,3,0,0,2,1,0,3,2,3,2] J J J ?_;refine Xb J Xk (Zc J) (Zc J) J J E.g2 J J ?_;intro wS20 hgS20 _ BS;have C5:=E.g2;replace E:=E.s2 hgS20 BS;have g:=Yb g hgS20 O;first|have h:=h.keep hgS20 C5 O (.inl rfl)|have h:=h.keep hgS20 C5 O (.inr ⟨by simp,fun hm=>by have:=htb2 _ hm;omega⟩)
   have k100:=k100.keep hgS20 Oi;have k108:=k108.keep hgS20 Oi;refine Zs (GTO.of_row hgS20 Os) ?_;refine TK [4,5] ?_;refine AS fun _ ga Ca g E=>?_;first|have h:=h.keep ga Ca O (.inl rfl)|have h:=h.keep ga Ca O (.inr ⟨by simp,fun hm=>by have:=htb2 _ hm;omega⟩)
   have k100:=k100.keep ga Oi;have k108:=k108.keep ga Oi;refine RTN ?_;rw [ef];exact ⟨he108,Xh (t:=annT t [_,_] tInt) rfl (Zsa (ks:=[_,_]) ⟨l109,Jp E.g0⟩ E.g0.row (Qe (k100.kdN q100) (Ve (k108.kdN q108))) (Aaa _)),h,g⟩
 replace h7:t.kind≠29:=Zdh h7;refine IF (fun h8=>?_) fun h8=>?_
 ·replace h8:t.kind=31:=Zch h8
  obtain ⟨_,hl,z0⟩:=sh31 h8 hx;have hc0:=hcS 0 O;have ef:=ex_31 (F:=F) (S:=S) h8 hl;have hst:=(Uh F (Za t 0)).ex S;have hcT:=((Jma F (Za t 0)).ex S hs).can hc;have hcan:=(Uhc F (Za t 0)).ex S hs hc;have eu:unTy t=bif decide (t.text=[33]) then tBool else tInt:=rfl;obtain ⟨hpe,p_118,c_118,hcell,hkid⟩:=Yr hk0 (i:=0) O;refine AU ?_;refine Y2 J Xj J J (CxM.to (KE 0 O z0) [b3,b4,b5] h he hc hkid hb O (E.ltm Ob) g.size) ((fun ch w' hz=>Bad.pass hz (by rw [ef];exact (Er.refl _).failu _ _ _) (Aaa _) g)) ?_;rintro v120 w120 ⟨⟨p120,c120,rfl,q120,k120⟩,he120,h,g120⟩;refine ⟨nw1,?_⟩;have g:=gtw g g120;replace E:=E.gtx g120;refine AN fun _ _ ga _ g E=>?_;have hp11:=h;have nlt11:=ga.blk.lt;have k120:=Uj k120;have h:=Ui h;refine AS fun _ ga Ca g E=>?_;first|have h:=h.keep ga Ca O (.inl rfl)|have h:=h.keep ga Ca O (.inr ⟨by simp,fun hm=>by have:=htb2 _ hm;omega⟩)
  have k120:=k120.keep ga Oi;refine Ze (kq (Zk (Zn (Va Zj J J h.laid.hC.1 (Xa Yh J (Xb J Xk (Zc J) (Zc J) J J E.g1 J J ?_))))));intro wS23 hgS23 _ BS;have C5:=E.g1;replace E:=E.s1 hgS23 BS;have g:=Yb g hgS23 O;first|have h:=h.keep hgS23 C5 O (.inl rfl)|have h:=h.keep hgS23 C5 O (.inr ⟨by simp,fun hm=>by have:=htb2 _ hm;omega⟩)
  have k120:=k120.keep hgS23 Oi;refine IF (fun h9=>?_) fun h9=>?_
  ·rw [show decide (t.text=[33])=true from h9] at eu
   have ew:wantS ((ckT F (Za t 0)).ex S).1 (unTy t).kind t.pos ((ckT F (Za t 0)).ex S).2=failU (tyEqB ((ckT F (Za t 0)).ex S).1.ty (unTy t)) t.pos 7 ((ckT F (Za t 0)).ex S).2:=by
    rw [eu];show failU (decide (((ckT F (Za t 0)).ex S).1.ty.kind=2)) t.pos 7 _=failU (tyEqB _ ⟨2,[]⟩) t.pos 7 _;rw [Qub hcan Od]
   replace eu:unTy t=tBool:=eu;rw [ew,eu] at ef;refine Zn (Va Zj J J h.laid.hC.2.1 (Xa Yh J (Xb J Xk (Zc J) (Zc J) J J E.g1 J J ?_)));intro wS24 hgS24 _ BS;have C5:=E.g1;replace E:=E.s1 hgS24 BS;have g:=Yb g hgS24 O;first|have h:=h.keep hgS24 C5 O (.inl rfl)|have h:=h.keep hgS24 C5 O (.inr ⟨by simp,fun hm=>by have:=htb2 _ hm;omega⟩)
   have k120:=k120.keep hgS24 Oi;refine AU ?_;refine Yx (rowR none) [3,0,3,0,3,3,0,1] [0,1,0,4,15,0,32,127] mix KR [0,1,2,3,4,5,6,7] J ?_;have g:=gtd g;replace E:=E.dr;have h:=h.grow (G.drew _);have k120:=k120.grow (G.drew _);refine Zr 0 J J (fun _=>Zh Yh (Zc J)) (Yg 1 J J (fun w1 hx=>Zo Zj (Zc J) J (fun _=>(E.g0.keep hx (fun h=>nomatch h)).row.part 5 2)) (Zr 2 J J (fun _=>Zh Yh (Zc J)) (Yg 3 J J (fun w1 hx=>Zo Zj (Zc J) J (fun _=>(E.g1.keep hx (fun h=>nomatch h)).row.part 5 2)) (Zr 4 J J (fun _=>Jd Wh (Zc J) (Zc J) J) (Zr 5 J J (fun _=>Zh Xp (Zc J)) (Yg 6 J J (fun w1 hx=>Zt Yf (Zc J) (fun _=>(E.g3.keep hx (fun h=>nomatch h)).at_ J)) (Zm 7 J J ?_)))))));refine Zl (L':=[]) [3,0,3,0,3,3,0,1] J J J ?_;refine Y3 J Yd J J J (Wy _ _ _ _) ((fun ch w' hz=>Un h he120 Od (by rw [ef];exact Er.refl _) hz g (by rw [hst.scope];exact Aaa _))) ?_;rintro v135 w135 ⟨rfl,hq135,g135⟩;refine ⟨fun _=>g135,?_⟩;have g:=gtg g g135;replace E:=E.grow g135;have h:=h.grow (g135);have k120:=k120.grow (g135);refine Zs ((g135).only _) ?_;refine TK [4,5,11] ?_;refine CN fun _ _ ga l137 g E=>?_;have hp137:=h;have nlt137:=ga.blk.lt;have k120:=Uj k120;have h:=Ui h;refine AS fun _ ga Ca g E=>?_;first|have h:=h.keep ga Ca O (.inl rfl)|have h:=h.keep ga Ca O (.inr ⟨by simp,fun hm=>by have:=htb2 _ hm;omega⟩)
   have k120:=k120.keep ga Oi;refine AS fun _ ga Ca g E=>?_;first|have h:=h.keep ga Ca O (.inl rfl)|have h:=h.keep ga Ca O (.inr ⟨by simp,fun hm=>by have:=htb2 _ hm;omega⟩)
   have k120:=k120.keep ga Oi;refine RTN ?_;rw [ef,show tyEqB ((ckT F (Za t 0)).ex S).1.ty _=true from hq135];exact ⟨he120,Xh (t:=annT t [_] _) rfl (Zsa (ks:=[_]) ⟨l137,Jp E.g0⟩ E.g0.row (Ve (k120.kdN q120)) (Aaa _)),h,g⟩
  rw [show decide (t.text=[33])=false from h9] at eu
  have ew:wantS ((ckT F (Za t 0)).ex S).1 (unTy t).kind t.pos ((ckT F (Za t 0)).ex S).2=failU (tyEqB ((ckT F (Za t 0)).ex S).1.ty (unTy t)) t.pos 7 ((ckT F (Za t 0)).ex S).2:=by
   rw [eu];show failU (decide (((ckT F (Za t 0)).ex S).1.ty.kind=1)) t.pos 7 _=failU (tyEqB _ ⟨1,[]⟩) t.pos 7 _;rw [Qub hcan Od]
  replace eu:unTy t=tInt:=eu;rw [ew,eu] at ef;refine AU ?_;refine Yx (rowR none) [3,0,3,0,3,3,0,1] [0,1,0,4,15,0,32,127] mix KR [0,1,2,3,4,5,6,7] J ?_;have g:=gtd g;replace E:=E.dr;have h:=h.grow (G.drew _);have k120:=k120.grow (G.drew _);refine Zr 0 J J (fun _=>Zh Yh (Zc J)) (Yg 1 J J (fun w1 hx=>Zo Zj (Zc J) J (fun _=>(E.g0.keep hx (fun h=>nomatch h)).row.part 5 2)) (Zr 2 J J (fun _=>Zh Yh (Zc J)) (Yg 3 J J (fun w1 hx=>Zo Zj (Zc J) J (fun _=>(E.g1.keep hx (fun h=>nomatch h)).row.part 5 2)) (Zr 4 J J (fun _=>Jd Wh (Zc J) (Zc J) J) (Zr 5 J J (fun _=>Zh Xp (Zc J)) (Yg 6 J J (fun w1 hx=>Zt Yf (Zc J) (fun _=>(E.g3.keep hx (fun h=>nomatch h)).at_ J)) (Zm 7 J J ?_)))))));refine Zl (L':=[]) [3,0,3,0,3,3,0,1] J J J ?_;refine Y3 J Yd J J J (Wy _ _ _ _) ((fun ch w' hz=>Un h he120 Od (by rw [ef];exact Er.refl _) hz g (by rw [hst.scope];exact Aaa _))) ?_;rintro v135 w135 ⟨rfl,hq135,g135⟩;refine ⟨fun _=>g135,?_⟩;have g:=gtg g g135;replace E:=E.grow g135;have h:=h.grow (g135);have k120:=k120.grow (g135);refine Zs ((g135).only _) ?_;refine TK [4,5,11] ?_;refine CN fun _ _ ga l137 g E=>?_;have hp137:=h;have nlt137:=ga.blk.lt;have k120:=Uj k120;have h:=Ui h;refine AS fun _ ga Ca g E=>?_;first|have h:=h.keep ga Ca O (.inl rfl)|have h:=h.keep ga Ca O (.inr ⟨by simp,fun hm=>by have:=htb2 _ hm;omega⟩)
  have k120:=k120.keep ga Oi;refine AS fun _ ga Ca g E=>?_;first|have h:=h.keep ga Ca O (.inl rfl)|have h:=h.keep ga Ca O (.inr ⟨by simp,fun hm=>by have:=htb2 _ hm;omega⟩)
  have k120:=k120.keep ga Oi;refine RTN ?_;rw [ef,show tyEqB ((ckT F (Za t 0)).ex S).1.ty _=true from hq135];exact ⟨he120,Xh (t:=annT t [_] _) rfl (Zsa (ks:=[_]) ⟨l137,Jp E.g0⟩ E.g0.row (Ve (k120.kdN q120)) (Aaa _)),h,g⟩
 replace h8:t.kind≠31:=Zdh h8;refine IF (fun h10=>?_) fun h10=>?_
 ·replace h10:t.kind=32:=Zch h10
  obtain ⟨_,hl,z0,z1⟩:=sh32 h10 hx;have hc0:=hcS 0 O;have hc1:=hcS 1 O;have hs2:cN t 0=count (Za t 0):=Xya O;have ef:=ex_32 (F:=F) (S:=S) h10 hl;have hst:=(Uh F (Za t 0)).ex S;have hcT:=((Jma F (Za t 0)).ex S hs).can hc;obtain ⟨hpe,p_144,c_144,hcell,hkid⟩:=Yr hk0 (i:=0) O;refine AU ?_;refine Y2 J Xj J J (CxM.to (KE 0 O z0) [b3,b4,b5] h he hc hkid hb O (E.ltm Ob) g.size) ((fun ch w' hz=>Bad.pass hz (by rw [ef];exact ((Uh F (Za t 1)).ex _).e.failu _ _ _) (Aaa _) g)) ?_;rintro v146 w146 ⟨⟨p146,c146,rfl,q146,k146⟩,he146,h,g146⟩;refine ⟨nw1,?_⟩;have g:=gtw g g146;replace E:=E.gtx g146;have hk0:=hk0.gt g146 (fun k h=>h);have hb:=hst.bd _ hb;refine AN fun b12 _ ga _ g E=>?_;have hp12:=h;have nlt12:=ga.blk.lt;have k146:=Uj k146;have h:=Ui h;have hk0:=Ui hk0;refine AS fun _ ga Ca g E=>?_;first|have h:=h.keep ga Ca O (.inl rfl)|have h:=h.keep ga Ca O (.inr ⟨by simp,fun hm=>by have:=htb2 _ hm;omega⟩)
  have hk0:=Ud hk0;have k146:=k146.keep ga Oi;obtain ⟨hpe,p_150,c_150,hcell,hkid⟩:=Yr hk0 (i:=1) O;refine AU ?_;refine Y2 J Xj J J (CxM.to (KE 1 O z1) [b3,b4,b5,b12] h he146 hcT hkid hb O (E.ltm Ob) g.size) ((fun ch w' hz=>Bad.pass hz (by rw [ef];exact (Er.refl _).failu _ _ _) (by rw [hst.scope];exact Aaa _) g)) ?_;rintro v152 w152 ⟨⟨p152,c152,rfl,q152,k152⟩,he152,h,g152⟩;refine ⟨nw1,?_⟩;have g:=gtw g g152;replace E:=E.gtx g152;have k146:=k146.gtc g152;refine AN fun _ _ ga _ g E=>?_;have hp13:=h;have nlt13:=ga.blk.lt;have k146:=Uj k146;have k152:=Uj k152;have h:=Ui h;refine AS fun _ ga Ca g E=>?_;first|have h:=h.keep ga Ca O (.inl rfl)|have h:=h.keep ga Ca O (.inr ⟨by simp,fun hm=>by have:=htb2 _ hm;omega⟩)
  have k146:=k146.keep ga Oi;have k152:=k152.keep ga Oi;refine AU ?_;refine CP (Jdf t.text ((ckT F (Za t 0)).ex S).1.ty ((ckT F (Za t 1)).ex ((ckT F (Za t 0)).ex S).2).1.ty _ h.laid.hL h.laid.hb) (fun w160 g160=>?_);have g:=gtg g g160;replace E:=E.grow g160;have h:=h.grow (g160);have k146:=k146.grow (g160);have k152:=k152.grow (g160);refine AN fun _ _ N14 _ g E=>?_;have hp14:=h;have nlt14:=N14.blk.lt;have k146:=k146.new N14;have k152:=k152.new N14;have h:=h.grow (N14.g);have h:=hp14.addX N14;refine AS fun _ ga Ca g E=>?_;first|have h:=h.keep ga Ca O (.inl rfl)|have h:=h.keep ga Ca O (.inr ⟨by simp,fun hm=>by have:=htb2 _ hm;omega⟩)
  have k146:=k146.keep ga Oi;have k152:=k152.keep ga Oi;refine AU ?_;refine Y3 J Yd J J J (Wy _ _ _ _) ((fun ch w' hz=>Un (h.sub (Y:=X) htb.1 (by intro j hj;simp [hj])) he152 Od (by rw [ef];exact Er.refl _) hz g (by rw [((Uh F (Za t 1)).ex _).scope,hst.scope];exact Aaa _))) ?_;rintro _ _ ⟨rfl,hq166,ga⟩;refine RC fun g E=>?_;have h:=Uk h;have k146:=Uk k146;have k152:=Uk k152;rw [hq166] at ef;refine AU ?_;refine Yx (rowR (some b5)) [0,0,1,0,3,1,3,1] [0,0,3,0,7,23,63,127] mix KR [0,1,2,3,4,5,6,7] J ?_;have g:=gtd g;replace E:=E.dr;have h:=h.grow (G.drew _);have k146:=k146.grow (G.drew _);have k152:=k152.grow (G.drew _);refine Yg 0 J J (fun w1 hx=>Zo Zf (Zc J) J (fun _=>(E.g2.keep hx (fun h=>E.ne 2 3 J J J (Option.some.inj h))).row)) (Yg 1 J J (fun w1 hx=>Zo Zf (Zc J) J (fun _=>(E.g1.keep hx (fun h=>E.ne 1 3 J J J (Option.some.inj h))).row)) (Yg 3 J J (fun w1 hx=>Zo Zj (Zc J) J (fun _=>(E.g0.keep hx (fun h=>E.ne 0 3 J J J (Option.some.inj h))).row)) (Zm 2 J J ?_)));refine Zl (L':=[4,5,6,7]) [0,0,1,0,3,2,3,2] J J J ?_;refine CN fun _ _ N169 l169 g E=>?_;have hp169:=h;have nlt169:=N169.blk.lt;have k146:=k146.new N169;have k152:=k152.new N169;have h:=h.grow (N169.g);refine Zs ((N169.g).only _) ?_;refine Zr 4 J J (fun _=>Zh Zg (Zc J)) (Zm 5 J J ?_);refine Zl (L':=[6,7]) [0,0,1,0,3,2,3,2] J J J ?_;refine AS fun _ hgS29 Ca g E=>?_;first|have h:=h.keep hgS29 Ca O (.inl rfl)|have h:=h.keep hgS29 Ca O (.inr ⟨by simp,fun hm=>by have:=htb2 _ hm;omega⟩)
  have k146:=k146.keep hgS29 Oi;have k152:=k152.keep hgS29 Oi;refine Zs (hgS29) ?_;refine Zr 6 J J (fun _=>Zh Yh (Zc J)) (Zm 7 J J ?_);refine Zl (L':=[]) [0,0,1,0,3,2,3,2] J J J ?_;refine Xb J Xk (Zc J) (Zc J) J J E.g4 J J ?_;intro wS30 hgS30 _ BS;have C5:=E.g4;replace E:=E.s4 hgS30 BS;have g:=Yb g hgS30 O;first|have h:=h.keep hgS30 C5 O (.inl rfl)|have h:=h.keep hgS30 C5 O (.inr ⟨by simp,fun hm=>by have:=htb2 _ hm;omega⟩)
  have k146:=k146.keep hgS30 Oi;have k152:=k152.keep hgS30 Oi;refine Zs (hgS30) ?_;refine TK [4,5] ?_;refine AS fun _ ga Ca g E=>?_;first|have h:=h.keep ga Ca O (.inl rfl)|have h:=h.keep ga Ca O (.inr ⟨by simp,fun hm=>by have:=htb2 _ hm;omega⟩)
  have k146:=k146.keep ga Oi;have k152:=k152.keep ga Oi;refine RTN ?_;rw [ef];exact ⟨he152,Xh (t:=annT t [_,_] _) rfl (Zsa (ks:=[_,_]) ⟨l169,Jp E.g0⟩ E.g0.row (Qe (k146.kdN q146) (Ve (k152.kdN q152))) (Aaa _)),h.sub htb.1 (by intro j hj;simp [hj]),g⟩
 replace h10:t.kind≠32:=Zdh h10;refine IF (fun h11=>?_) fun h11=>?_
 ·replace h11:t.kind=33:=Zch h11
  obtain ⟨hl,z0⟩:=sh33 h11 hx;have hc0:=hcS 0 O;have ef:=ex_33 (F:=F) (S:=S) h11 hl;have hst:=(Uh F (Za t 0)).ex S;have hcT:=((Jma F (Za t 0)).ex S hs).can hc;have hcan:=(Uhc F (Za t 0)).ex S hs hc;unfold wantS at ef;rw [← Qub hcan (k:=6) Od] at ef;obtain ⟨hpe,p_178,c_178,hcell,hkid⟩:=Yr hk0 (i:=0) O;refine AU ?_;refine Y2 J Xj J J (CxM.to (KE 0 O z0) [b3,b4,b5] h he hc hkid hb O (E.ltm Ob) g.size) ((fun ch w' hz=>Bad.pass hz (by rw [ef];exact (Er.refl _).failu _ _ _) (Aaa _) g)) ?_;rintro v180 w180 ⟨⟨p180,c180,rfl,q180,k180⟩,he180,h,g180⟩;refine ⟨nw1,?_⟩;have g:=gtw g g180;replace E:=E.gtx g180;refine AN fun _ _ ga _ g E=>?_;have hp16:=h;have nlt16:=ga.blk.lt;have k180:=Uj k180;have h:=Ui h;refine AS fun _ ga Ca g E=>?_;first|have h:=h.keep ga Ca O (.inl rfl)|have h:=h.keep ga Ca O (.inr ⟨by simp,fun hm=>by have:=htb2 _ hm;omega⟩)
  have k180:=k180.keep ga Oi;refine AU ?_;refine Yx (rowR none) [3,0,0,3,3,0,1] [0,1,0,7,0,16,63] mix KR [0,1,2,3,4,5,6] J ?_;have g:=gtd g;replace E:=E.dr;have h:=h.grow (G.drew _);have k180:=k180.grow (G.drew _);refine Zr 0 J J (fun _=>Zh Yh (Zc J)) (Yg 1 J J (fun w1 hx=>Zo Zj (Zc J) J (fun _=>(E.g0.keep hx (fun h=>nomatch h)).row.part 5 2)) (Yg 2 J J (fun w1 hx=>Zo Zj Jua J (fun _=>by first|exact h.laid.hC.2.2.2.2.1.kn hx|exact h.laid.hC.2.2.2.2.1.kb hx (by have:=h.laid.hG;omega)|exact h.laid.hC.2.2.2.2.1.gt hx (by have:=h.laid.hG;omega)|exact h.laid.hC.2.2.2.2.1.gto hx (by have:=h.laid.hG;omega) (by have:=h.laid.hG;simp;omega))) (Zr 3 J J (fun _=>Jd Wh (Zc J) (Zc J) J) (Zr 4 J J (fun _=>Zh Xp (Zc J)) (Yg 5 J J (fun w1 hx=>Zt Yf (Zc J) (fun _=>(E.g3.keep hx (fun h=>nomatch h)).at_ J)) (Zm 6 J J ?_))))));refine Zl (L':=[]) [3,0,0,3,3,0,1] J J J ?_;refine Y3 J Yd J J J (Wy _ _ _ _) ((fun ch w' hz=>Un h he180 Od (by rw [ef];exact Er.refl _) hz g (by rw [hst.scope];exact Aaa _))) ?_;rintro v187 w187 ⟨rfl,hq187,g187⟩;refine ⟨fun _=>g187,?_⟩;have g:=gtg g g187;replace E:=E.grow g187;have h:=h.grow (g187);have k180:=k180.grow (g187);rw [show tyEqB ((ckT F (Za t 0)).ex S).1.ty ⟨6,[]⟩=true from hq187] at ef;refine Zs ((g187).only _) ?_;refine TK [4,5,16] ?_;refine AU ?_;refine Yx (rowR (some b5)) [0,1,0,3,1,3,1] [0,1,0,3,11,31,63] mix KR [0,1,2,3,4,5,6] J ?_;have g:=gtd g;replace E:=E.dr;have h:=h.grow (G.drew _);have k180:=k180.grow (G.drew _)
  refine Yg 0 J J (fun w1 hx=>Zo Zf (Zc J) J (fun _=>(E.g0.keep hx (fun h=>E.ne 0 1 J J J (Option.some.inj h))).row)) (Yg 2 J J (fun w1 hx=>Zo Zj Jua J (fun _=>by first|exact h.laid.hC.1.kn hx|exact h.laid.hC.1.kb hx (by have:=h.laid.hG;omega)|exact h.laid.hC.1.gt hx (by have:=h.laid.hG;omega)|exact h.laid.hC.1.gto hx (by have:=h.laid.hG;omega) (by have:=h.laid.hG;simp;omega))) (Zm 1 J J ?_));refine Zl (L':=[3,4,5,6]) [0,1,0,3,2,3,2] J J J ?_;refine CN fun _ _ N189 l189 g E=>?_;have hp189:=h;have nlt189:=N189.blk.lt;have k180:=k180.new N189;have h:=h.grow (N189.g);refine Zs ((N189.g).only _) ?_;refine Zr 3 J J (fun _=>Zh Zg (Zc J)) (Zm 4 J J ?_);refine Zl (L':=[5,6]) [0,1,0,3,2,3,2] J J J ?_;refine AS fun _ hgS33 Ca g E=>?_;first|have h:=h.keep hgS33 Ca O (.inl rfl)|have h:=h.keep hgS33 Ca O (.inr ⟨by simp,fun hm=>by have:=htb2 _ hm;omega⟩)
  have k180:=k180.keep hgS33 Oi;refine Zs (hgS33) ?_;refine Zr 5 J J (fun _=>Zh Yh (Zc J)) (Zm 6 J J ?_);refine Zl (L':=[]) [0,1,0,3,2,3,2] J J J ?_;refine Xb J Xk (Zc J) (Zc J) J J E.g2 J J ?_;intro wS34 hgS34 _ BS;have C5:=E.g2;replace E:=E.s2 hgS34 BS;have g:=Yb g hgS34 O;first|have h:=h.keep hgS34 C5 O (.inl rfl)|have h:=h.keep hgS34 C5 O (.inr ⟨by simp,fun hm=>by have:=htb2 _ hm;omega⟩)
  have k180:=k180.keep hgS34 Oi;refine Zs (hgS34) ?_;refine TK [4,5] ?_;refine AS fun _ ga Ca g E=>?_;first|have h:=h.keep ga Ca O (.inl rfl)|have h:=h.keep ga Ca O (.inr ⟨by simp,fun hm=>by have:=htb2 _ hm;omega⟩)
  have k180:=k180.keep ga Oi;refine RTN ?_;rw [ef];exact ⟨he180,Xh (t:=annT t [_] tInt) rfl (Zsa (ks:=[_]) ⟨l189,Jp E.g0⟩ E.g0.row (Ve (k180.kdN q180)) (Aaa _)),h,g⟩
 replace h11:t.kind≠33:=Zdh h11;refine IF (fun h12=>?_) fun h12=>?_
 ·replace h12:t.kind=37:=Zch h12
  obtain ⟨hl,z0⟩:=sh37 h12 hx;have hc0:=hcS 0 O;have ef:=ex_37 (F:=F) (S:=S) h12 hl;refine Yx (gtoR X n0 [b5]) [3,3,0,3,0,0,1,1,0,3,1,3,1] [0,0,2,6,14,0,63,127,0,255,767,2047,4095] mix KR [0,1,2,3,4,5,6,7,8,9,10,11,12] J ?_;have g:=gtd g;replace E:=E.dr;have h:=h.grow (G.drew _);have hk0:=hk0.grow (G.drew _);refine Zr 0 J J (fun _=>Zw (Zc J)) (Zr 1 J J (fun _=>Zh Zg (Zc J)) (Yg 2 J J (fun w1 hx=>Zt Zi (Zc J) (fun _=>(E.g2.gto hx J (Uyc (E.ne 2 0 J J J) Uxc)).at_ J)) (?_)));obtain ⟨hpe,p_198,c_198,hcell,hkid⟩:=Yr hk0 (i:=0) O;refine Zr 3 J J (fun _=>Xr Zd (Zc J) Xv (fun _=>O) (fun _=>hpe)) (Yg 4 J J (fun w1 hx=>Zo Zf (Zc J) J (fun _=>by first|exact hcell.kn hx|exact hcell.gt hx (Vq hk0 (i:=0) O)|exact hcell.gto hx (Vq hk0 (i:=0) O) (by have:=Vq hk0 (i:=0) O;simp;omega))) (Yg 5 J J (fun w1 hx=>Zo Zj Jua J (fun _=>by first|exact h.laid.hC.2.2.2.1.kn hx|exact h.laid.hC.2.2.2.1.kb hx (by have:=h.laid.hG;omega)|exact h.laid.hC.2.2.2.1.gt hx (by have:=h.laid.hG;omega)|exact h.laid.hC.2.2.2.1.gto hx (by have:=h.laid.hG;omega) (by have:=h.laid.hG;simp;omega))) (Yg 8 J J (fun w1 hx=>Zo Zj Jua J (fun _=>by first|exact h.laid.hC.1.kn hx|exact h.laid.hC.1.kb hx (by have:=h.laid.hG;omega)|exact h.laid.hC.1.gt hx (by have:=h.laid.hG;omega)|exact h.laid.hC.1.gto hx (by have:=h.laid.hG;omega) (by have:=h.laid.hG;simp;omega))) (Zm 6 J J ?_))));refine Zl (L':=[7,9,10,11,12]) [3,3,0,3,0,0,2,1,0,3,2,3,2] J J J ?_
  refine Y3 J Yy J J J (Qw (k:=5) (KE 0 O z0) (Uea F _) Od [b3,b4,b5] h he hc hkid hb O (E.ltm Ob) g.size) ((fun ch w' hz=>Bad.pass hz (by rw [ef];exact Er.refl _) (Aaa _) g)) ?_;rintro v201 w201 ⟨⟨p201,c201,rfl,q201,k201⟩,he201,eW,h,g201⟩;refine ⟨nw1,?_⟩;have g:=gtw g g201;replace E:=E.gtx g201;rw [eW] at he201 ef;refine Zs (GTO.of_gt g201) ?_;refine Zm 7 J J ?_;refine Zl (L':=[9,10,11,12]) [3,3,0,3,0,0,2,1,0,3,2,3,2] J J J ?_;refine CN fun _ _ N202 l202 g E=>?_;have hp202:=h;have nlt202:=N202.blk.lt;have k201:=k201.new N202;have h:=h.grow (N202.g);refine Zs (GTO.of_g (N202.g)) ?_;refine Zr 9 J J (fun _=>Zh Zg (Zc J)) (Zm 10 J J ?_);refine Zl (L':=[11,12]) [3,3,0,3,0,0,2,1,0,3,2,3,2] J J J ?_;refine AS fun _ hgS36 Ca g E=>?_;first|have h:=h.keep hgS36 Ca O (.inl rfl)|have h:=h.keep hgS36 Ca O (.inr ⟨by simp,fun hm=>by have:=htb2 _ hm;omega⟩)
  have k201:=k201.keep hgS36 Oi;refine Zs (GTO.of_row hgS36 Os) ?_;refine Zr 11 J J (fun _=>Zh Yh (Zc J)) (Zm 12 J J ?_);refine Zl (L':=[]) [3,3,0,3,0,0,2,1,0,3,2,3,2] J J J ?_;refine Xb J Xk (Zc J) (Zc J) J J E.g1 J J ?_;intro wS37 hgS37 _ BS;have C5:=E.g1;replace E:=E.s1 hgS37 BS;have g:=Yb g hgS37 O;first|have h:=h.keep hgS37 C5 O (.inl rfl)|have h:=h.keep hgS37 C5 O (.inr ⟨by simp,fun hm=>by have:=htb2 _ hm;omega⟩)
  have k201:=k201.keep hgS37 Oi;refine Zs (GTO.of_row hgS37 Os) ?_;refine TK [4,5] ?_;refine AS fun _ ga Ca g E=>?_;first|have h:=h.keep ga Ca O (.inl rfl)|have h:=h.keep ga Ca O (.inr ⟨by simp,fun hm=>by have:=htb2 _ hm;omega⟩)
  have k201:=k201.keep ga Oi;refine RTN ?_;rw [ef];exact ⟨he201,Xh (t:=annT t [_] tInt) rfl (Zsa (ks:=[_]) ⟨l202,Jp E.g0⟩ E.g0.row (Ve (k201.kdN q201)) (Aaa _)),h,g⟩
 replace h12:t.kind≠37:=Zdh h12;refine IF (fun h13=>?_) fun h13=>?_
 ·replace h13:t.kind=35:=Zch h13
  obtain ⟨hl,z0⟩:=sh35 h13 hx;have hc0:=hcS 0 O;have ef:=ex_35 (F:=F) (S:=S) h13 hl;refine Yx (gtoR X n0 [b5]) [3,3,0,3,0,0,1,1,0,3,1,3,1] [0,0,2,6,14,0,63,127,0,255,767,2047,4095] mix KR [0,1,2,3,4,5,6,7,8,9,10,11,12] J ?_;have g:=gtd g;replace E:=E.dr;have h:=h.grow (G.drew _);have hk0:=hk0.grow (G.drew _);refine Zr 0 J J (fun _=>Zw (Zc J)) (Zr 1 J J (fun _=>Zh Zg (Zc J)) (Yg 2 J J (fun w1 hx=>Zt Zi (Zc J) (fun _=>(E.g2.gto hx J (Uyc (E.ne 2 0 J J J) Uxc)).at_ J)) (?_)));obtain ⟨hpe,p_211,c_211,hcell,hkid⟩:=Yr hk0 (i:=0) O;refine Zr 3 J J (fun _=>Xr Zd (Zc J) Xv (fun _=>O) (fun _=>hpe)) (Yg 4 J J (fun w1 hx=>Zo Zf (Zc J) J (fun _=>by first|exact hcell.kn hx|exact hcell.gt hx (Vq hk0 (i:=0) O)|exact hcell.gto hx (Vq hk0 (i:=0) O) (by have:=Vq hk0 (i:=0) O;simp;omega))) (Yg 5 J J (fun w1 hx=>Zo Zj Jua J (fun _=>by first|exact h.laid.hC.1.kn hx|exact h.laid.hC.1.kb hx (by have:=h.laid.hG;omega)|exact h.laid.hC.1.gt hx (by have:=h.laid.hG;omega)|exact h.laid.hC.1.gto hx (by have:=h.laid.hG;omega) (by have:=h.laid.hG;simp;omega))) (Yg 8 J J (fun w1 hx=>Zo Zj Jua J (fun _=>by first|exact h.laid.hC.2.2.2.1.kn hx|exact h.laid.hC.2.2.2.1.kb hx (by have:=h.laid.hG;omega)|exact h.laid.hC.2.2.2.1.gt hx (by have:=h.laid.hG;omega)|exact h.laid.hC.2.2.2.1.gto hx (by have:=h.laid.hG;omega) (by have:=h.laid.hG;simp;omega))) (Zm 6 J J ?_))));refine Zl (L':=[7,9,10,11,12]) [3,3,0,3,0,0,2,1,0,3,2,3,2] J J J ?_
  refine Y3 J Yy J J J (Qw (k:=1) (KE 0 O z0) (Uea F _) Od [b3,b4,b5] h he hc hkid hb O (E.ltm Ob) g.size) ((fun ch w' hz=>Bad.pass hz (by rw [ef];exact Er.refl _) (Aaa _) g)) ?_;rintro v214 w214 ⟨⟨p214,c214,rfl,q214,k214⟩,he214,eW,h,g214⟩;refine ⟨nw1,?_⟩;have g:=gtw g g214;replace E:=E.gtx g214;rw [eW] at he214 ef;refine Zs (GTO.of_gt g214) ?_;refine Zm 7 J J ?_;refine Zl (L':=[9,10,11,12]) [3,3,0,3,0,0,2,1,0,3,2,3,2] J J J ?_;refine CN fun _ _ N215 l215 g E=>?_;have hp215:=h;have nlt215:=N215.blk.lt;have k214:=k214.new N215;have h:=h.grow (N215.g);refine Zs (GTO.of_g (N215.g)) ?_;refine Zr 9 J J (fun _=>Zh Zg (Zc J)) (Zm 10 J J ?_);refine Zl (L':=[11,12]) [3,3,0,3,0,0,2,1,0,3,2,3,2] J J J ?_;refine AS fun _ hgS39 Ca g E=>?_;first|have h:=h.keep hgS39 Ca O (.inl rfl)|have h:=h.keep hgS39 Ca O (.inr ⟨by simp,fun hm=>by have:=htb2 _ hm;omega⟩)
  have k214:=k214.keep hgS39 Oi;refine Zs (GTO.of_row hgS39 Os) ?_;refine Zr 11 J J (fun _=>Zh Yh (Zc J)) (Zm 12 J J ?_);refine Zl (L':=[]) [3,3,0,3,0,0,2,1,0,3,2,3,2] J J J ?_;refine Xb J Xk (Zc J) (Zc J) J J E.g1 J J ?_;intro wS40 hgS40 _ BS;have C5:=E.g1;replace E:=E.s1 hgS40 BS;have g:=Yb g hgS40 O;first|have h:=h.keep hgS40 C5 O (.inl rfl)|have h:=h.keep hgS40 C5 O (.inr ⟨by simp,fun hm=>by have:=htb2 _ hm;omega⟩)
  have k214:=k214.keep hgS40 Oi;refine Zs (GTO.of_row hgS40 Os) ?_;refine TK [4,5] ?_;refine AS fun _ ga Ca g E=>?_;first|have h:=h.keep ga Ca O (.inl rfl)|have h:=h.keep ga Ca O (.inr ⟨by simp,fun hm=>by have:=htb2 _ hm;omega⟩)
  have k214:=k214.keep ga Oi;refine RTN ?_;rw [ef];exact ⟨he214,Xh (t:=annT t [_] ⟨5,[]⟩) rfl (Zsa (ks:=[_]) ⟨l215,Jp E.g0⟩ E.g0.row (Ve (k214.kdN q214)) (Aaa _)),h,g⟩
 replace h13:t.kind≠35:=Zdh h13;refine IF (fun h14=>?_) fun h14=>?_
 ·replace h14:t.kind=36:=Zch h14
  obtain ⟨hl,z0⟩:=sh36 h14 hx;have hc0:=hcS 0 O;have ef:=ex_36 (F:=F) (S:=S) h14 hl;refine Yx (gtoR X n0 [b5]) [3,3,0,3,0,0,1,1,0,3,1,3,1] [0,0,2,6,14,0,63,127,0,255,767,2047,4095] mix KR [0,1,2,3,4,5,6,7,8,9,10,11,12] J ?_;have g:=gtd g;replace E:=E.dr;have h:=h.grow (G.drew _);have hk0:=hk0.grow (G.drew _);refine Zr 0 J J (fun _=>Zw (Zc J)) (Zr 1 J J (fun _=>Zh Zg (Zc J)) (Yg 2 J J (fun w1 hx=>Zt Zi (Zc J) (fun _=>(E.g2.gto hx J (Uyc (E.ne 2 0 J J J) Uxc)).at_ J)) (?_)));obtain ⟨hpe,p_224,c_224,hcell,hkid⟩:=Yr hk0 (i:=0) O;refine Zr 3 J J (fun _=>Xr Zd (Zc J) Xv (fun _=>O) (fun _=>hpe)) (Yg 4 J J (fun w1 hx=>Zo Zf (Zc J) J (fun _=>by first|exact hcell.kn hx|exact hcell.gt hx (Vq hk0 (i:=0) O)|exact hcell.gto hx (Vq hk0 (i:=0) O) (by have:=Vq hk0 (i:=0) O;simp;omega))) (Yg 5 J J (fun w1 hx=>Zo Zj Jua J (fun _=>by first|exact h.laid.hC.1.kn hx|exact h.laid.hC.1.kb hx (by have:=h.laid.hG;omega)|exact h.laid.hC.1.gt hx (by have:=h.laid.hG;omega)|exact h.laid.hC.1.gto hx (by have:=h.laid.hG;omega) (by have:=h.laid.hG;simp;omega))) (Yg 8 J J (fun w1 hx=>Zo Zj Jua J (fun _=>by first|exact h.laid.hC.2.2.2.2.1.kn hx|exact h.laid.hC.2.2.2.2.1.kb hx (by have:=h.laid.hG;omega)|exact h.laid.hC.2.2.2.2.1.gt hx (by have:=h.laid.hG;omega)|exact h.laid.hC.2.2.2.2.1.gto hx (by have:=h.laid.hG;omega) (by have:=h.laid.hG;simp;omega))) (Zm 6 J J ?_))));refine Zl (L':=[7,9,10,11,12]) [3,3,0,3,0,0,2,1,0,3,2,3,2] J J J ?_
  refine Y3 J Yy J J J (Qw (k:=1) (KE 0 O z0) (Uea F _) Od [b3,b4,b5] h he hc hkid hb O (E.ltm Ob) g.size) ((fun ch w' hz=>Bad.pass hz (by rw [ef];exact Er.refl _) (Aaa _) g)) ?_;rintro v227 w227 ⟨⟨p227,c227,rfl,q227,k227⟩,he227,eW,h,g227⟩;refine ⟨nw1,?_⟩;have g:=gtw g g227;replace E:=E.gtx g227;rw [eW] at he227 ef;refine Zs (GTO.of_gt g227) ?_;refine Zm 7 J J ?_;refine Zl (L':=[9,10,11,12]) [3,3,0,3,0,0,2,1,0,3,2,3,2] J J J ?_;refine CN fun _ _ N228 l228 g E=>?_;have hp228:=h;have nlt228:=N228.blk.lt;have k227:=k227.new N228;have h:=h.grow (N228.g);refine Zs (GTO.of_g (N228.g)) ?_;refine Zr 9 J J (fun _=>Zh Zg (Zc J)) (Zm 10 J J ?_);refine Zl (L':=[11,12]) [3,3,0,3,0,0,2,1,0,3,2,3,2] J J J ?_;refine AS fun _ hgS42 Ca g E=>?_;first|have h:=h.keep hgS42 Ca O (.inl rfl)|have h:=h.keep hgS42 Ca O (.inr ⟨by simp,fun hm=>by have:=htb2 _ hm;omega⟩)
  have k227:=k227.keep hgS42 Oi;refine Zs (GTO.of_row hgS42 Os) ?_;refine Zr 11 J J (fun _=>Zh Yh (Zc J)) (Zm 12 J J ?_);refine Zl (L':=[]) [3,3,0,3,0,0,2,1,0,3,2,3,2] J J J ?_;refine Xb J Xk (Zc J) (Zc J) J J E.g1 J J ?_;intro wS43 hgS43 _ BS;have C5:=E.g1;replace E:=E.s1 hgS43 BS;have g:=Yb g hgS43 O;first|have h:=h.keep hgS43 C5 O (.inl rfl)|have h:=h.keep hgS43 C5 O (.inr ⟨by simp,fun hm=>by have:=htb2 _ hm;omega⟩)
  have k227:=k227.keep hgS43 Oi;refine Zs (GTO.of_row hgS43 Os) ?_;refine TK [4,5] ?_;refine AS fun _ ga Ca g E=>?_;first|have h:=h.keep ga Ca O (.inl rfl)|have h:=h.keep ga Ca O (.inr ⟨by simp,fun hm=>by have:=htb2 _ hm;omega⟩)
  have k227:=k227.keep ga Oi;refine RTN ?_;rw [ef];exact ⟨he227,Xh (t:=annT t [_] ⟨6,[]⟩) rfl (Zsa (ks:=[_]) ⟨l228,Jp E.g0⟩ E.g0.row (Ve (k227.kdN q227)) (Aaa _)),h,g⟩
 replace h14:t.kind≠36:=Zdh h14;refine IF (fun h15=>?_) fun h15=>?_
 ·replace h15:t.kind=34:=Zch h15
  have ef:=ex_34 (F:=F) (S:=S) h15;refine AU ?_;refine Yx (rowR none) [3,3,3,0,3,0,0,3,0,1] [0,1,3,7,0,16,63,0,128,511] mix KR [0,1,2,3,4,5,6,7,8,9] J ?_;have g:=gtd g;replace E:=E.dr;have h:=h.grow (G.drew _);obtain ⟨fv,ms,mg,mn,mf,pv,sv,cv,rv,vs,sc,hK⟩:=id h;refine Zr 0 J J (fun _=>Zw (Zc J)) (Zr 1 J J (fun _=>Zxa (Zc J)) (Zr 2 J J (fun _=>Zh Jy (Zc J)) (Yg 3 J J (fun w1 hx=>Zt Je (Zc J) (fun _=>(hK.B.keep hx (fun h=>nomatch h)).at_ J)) (Zr 4 J J (fun _=>Zh Xt (Zc J)) (Yg 5 J J (fun w1 hx=>Zt Xc (Zc J) (fun _=>(E.g2.keep hx (fun h=>nomatch h)).at_ J)) (Yg 6 J J (fun w1 hx=>Xcc (hK.T.hs.keep hx (fun h=>nomatch h)) (Zc J) (Zc J)) (Zr 7 J J (fun _=>Zh Xp (Zc J)) (Yg 8 J J (fun w1 hx=>Zt Yf (Zc J) (fun _=>(E.g2.keep hx (fun h=>nomatch h)).at_ J)) (Zm 9 J J ?_)))))))));refine Zl (L':=[]) [3,3,3,0,3,0,0,3,0,1] J J J ?_;refine Y3 J Yd J J J (Wy _ _ _ _) ((fun ch w' hz=>Un h he Od (by rw [ef];exact Er.refl _) hz g (Aaa _))) ?_;rintro v243 w243 ⟨rfl,hq243,g243⟩;refine ⟨fun _=>g243,?_⟩;have g:=gtg g g243;replace E:=E.grow g243;have h:=h.grow (g243);rw [hq243] at ef;refine Zs ((g243).only _) ?_;refine Vaa [(3,_,_),(4,_,_),(5,_,_)] (Zb J (Zb J (Zb J (Zq _)))) (Jl (kq (Zn (Xa Xt J (Xn Xc J (E.g2.at_ J) (Vzb Yz Vj (pqc J (pqc J pq0)) J J (Xa Yh J (Xb J Xk (Zc J) (Zc J) J J E.g0 J J ?_))))))));intro wS45 hgS45 _ BS;have C5:=E.g0;replace E:=E.s0 hgS45 BS;have g:=Yb g hgS45 O;first|have h:=h.keep hgS45 C5 O (.inl rfl)|have h:=h.keep hgS45 C5 O (.inr ⟨by simp,fun hm=>by have:=htb2 _ hm;omega⟩)
  refine AS fun _ ga Ca g E=>?_;first|have h:=h.keep ga Ca O (.inl rfl)|have h:=h.keep ga Ca O (.inr ⟨by simp,fun hm=>by have:=htb2 _ hm;omega⟩)
  refine RTN ?_;rw [ef];exact ⟨he,Xh (t:=annT t [] ⟨4,t.text⟩) rfl (Yyb _ _),h,g⟩
 replace h15:t.kind≠34:=Zdh h15;refine IF (fun h16=>?_) fun h16=>?_
 ·replace h16:t.kind=30:=Zch h16
  have ef:=ex_30 (F:=F) (S:=S) h16;refine AU ?_;refine Y2 J Xhb J J (CxM.to (KK h16) [b3,b4,b5] h he hc hk0 hb hn (E.ltm Ob) g.size) ((fun ch w' hz=>Bad.pass hz (by rw [ef];exact Er.refl _) (Aaa _) g)) ?_;rintro v252 w252 ⟨⟨p252,c252,rfl,q252,k252⟩,he252,h,g252⟩;refine ⟨nw1,?_⟩;have g:=gtw g g252;replace E:=E.gtx g252;refine AS fun _ ga Ca g E=>?_;first|have h:=h.keep ga Ca O (.inl rfl)|have h:=h.keep ga Ca O (.inr ⟨by simp,fun hm=>by have:=htb2 _ hm;omega⟩)
  have k252:=k252.keep ga Oi;refine RTN ?_;rw [ef];exact ⟨he252,Xh rfl (k252.kdN q252),h,g⟩
 exfalso;replace h16:t.kind≠30:=Zdh h16;have:=op_k hx h1 h2 h3 h4 h16 h5 h6 h15;simp only [Aoa,Apa,or_false] at this;omega;done
theorem Qte{t:Nd}(h:commF t=true)(h9:t.kind=9):t.kids=[]:=by
 rw [← Qsb,Zec,h9] at h;have h:(stmtB t || noneB t)=true:=h;rw [Bool.or_eq_true] at h;exact Ana.1 (Vy (h.resolve_left fun q=>Qbb q h9)).2.2
structure CcOk (F t:Nd):Prop where
  ex:exprB t=true→CxM 1000000 F 113 t (ckT F t).ex
  st:stmtB t=true→CxM 1000000 F 87 t (ckT F t).st
  cs:Xga t=true→ChM F t
  sts:blockB t=true→CxM 1000001 F 57 t (ckT F t).sts
theorem Wwf{F:Nd}(HF:FW F):∀ (n:Nat) (t:Nd),count t≤n→CcOk F t:=by
 intro n
 induction n with
 | zero=>intro t h;exact absurd h (by have:=Uxa t;omega)
 | succ n ihn =>
  intro t hc;have K:∀ i,i<t.kids.length→CcOk F (Za t i):=fun i h=>ihn _ (by have:=Wi h;omega);have K2:∀ i,i<t.kids.length→∀ j,j<(Za t i).kids.length→CcOk F (Za (Za t i) j):=fun i h j hj=>ihn _ (by have:=Wi h;have:=Wi hj;omega);have HS:blockB t=true→CxM 1000001 F 57 t (ckT F t).sts:=fun hb=>@Qre F t fun i hi=>(K i hi).st (Xs (sh10 hb) hi);have HB:blockB t=true→CxM 1000000 F 116 t (ckT F t).blk:=fun hb=>@Qse F t (HS hb)
  have HK:exprB t=true→t.kind=30→CxM 1000000 F 141 t (callR t (ckX F t)):=fun hx h=>by
   obtain ⟨hl,ha⟩:=sh30 h hx;have HE:∀ i,i<t.kids.length→CxM 1000000 F 113 (Za t i) (ckT F (Za t i)).ex:=fun i hi=>(K i hi).ex (Xs ha hi);have hx0:exprB (Za t 0)=true:=Xs ha O;refine @Wjf F t hl (@Zxe F _ HF (Uea F _) (HE 0 O) (fun h28=>by have:=(sh28 h28 hx0).2.1;omega) fun h28 q28=>?_) HE (fun i=>Uea F _);obtain ⟨_,l0,y0⟩:=sh28 h28 hx0;obtain ⟨_,l1,y1⟩:=sh28 q28 y0;refine ⟨O,?_⟩;have c1:=Wi (t:=t) (i:=0) O;have c2:=Wi (t:=Za t 0) (i:=0) O;have c3:=Wi (t:=Za (Za t 0) 0) (i:=0) O;exact @CcOk.ex F _ (ihn _ O) y1
  have HX:exprB t=true→CxM 1000000 F 113 t (ckT F t).ex:=fun hx=>@Wvf F t HF hx (fun i hi q=>(K i hi).ex q) (fun h=>by
   obtain ⟨hl,hb⟩:=sh38 h hx;exact (K 0 O).sts hb) (HK hx)
  have HT:stmtB t=true→CxM 1000000 F 87 t (ckT F t).st:=fun hx=>@Wuf F t hx (fun i hi q=>(K i hi).ex q) (fun i hi q=>(K i hi).st q) (fun i hi q=>(K i hi).cs q) HB
  have HC:Xga t=true→ChM F t:=fun hx=>by
   obtain ⟨_,hl,hcm,hb⟩:=sh23 hx;exact @Zye F t hl (Qte hcm) (fun h9=>(K 0 O).st ((Vrb hcm).resolve_left h9)) ((K 1 O).sts hb)
  exact ⟨HX,HT,HC,HS⟩
theorem Wxf{t:Nd}(h:t.kind=10):(endT t).1=(endT t).2:=by rw [Zda];unfold endP;rw [h];rfl
theorem Wyf(t:Nd)(i:Nat)(h:i<t.kids.length):(t.kids.map endT).getD i (false,false)=endT (Za t i):=by
 rw [Yj h];simp [Aga,Ada h]
theorem Wzf{l:List Nd}(hl:l≠[]):((l.map endT).getLast?.getD (false,false))=endT (l.getLast hl):=by
 rw [List.getLast?_map,List.getLast?_eq_some_getLast hl];rfl
theorem Ugg{t:Nd}(h:t.kind=18)(hl:t.kids.length=3):(endT t).1=((endT (Za t 1)).2&&((decide ((Za t 2).kind=10)&&(endT (Za t 2)).2) || (decide ((Za t 2).kind=18)&&(endT (Za t 2)).1))):=by
 rw [Zda];unfold endP;rw [h];show (((t.kids.map endT).getD 1 (false,false)).2&&((decide ((Za t 2).kind=10)&&((t.kids.map endT).getD 2 (false,false)).2) || (decide ((Za t 2).kind=18)&&((t.kids.map endT).getD 2 (false,false)).1)))=_;rw [Wyf t 1 O,Wyf t 2 O]
def lT(l:List Nd):Nd:=.mk 0 [] 0 0 l ty0 0 0
theorem Que{l:List Nd}(h:0<l.length):endsL l=(endT (Za (lT l) (l.length-1))).1∧Za (lT l) (l.length-1)∈l:=by
 have hl:l≠[]:=by intro e;subst e;simp at h
 have e:Za (lT l) (l.length-1)=l.getLast hl:=by
  rw [Yj (show l.length-1<(lT l).kids.length from (by show _<l.length;omega)),List.getLast_eq_getElem];rfl
 rw [e];exact ⟨by unfold endsL;rw [Wzf hl],List.getLast_mem hl⟩
theorem Jdc{l:List Nd}{t:Nd}(h:t∈l):count t≤(l.map count).sum:=by
 have h1:=Zrb (t:=lT l) (k:=t) h;rw [Qm (lT l)] at h1;have:(lT l).kids=l:=rfl;rw [this] at h1;omega
theorem Zjc(t:Nd):(t.kids.map count).sum<count t:=by rw [Qm t];omega
theorem Vaf(t:Nd):endsL [t]=(endT t).1:=rfl
theorem Yag{k:Nd}(h:blockB k=true∨ifB k=true∨noneB k=true)(e:k.kind≠9):stmtB k=true :=
 h.elim Xtd fun h=>h.elim Xzg fun h=>absurd (Vy h).1 e
theorem Ybg{t:Nd}(h5:t.kind=18)(hl:t.kids.length=3)(h:blockB (Za t 2)=true∨ifB (Za t 2)=true∨noneB (Za t 2)=true):(endT t).1=((endT (Za t 1)).2&&(!decide ((Za t 2).kind=9)&&(endT (Za t 2)).1)):=by
 rw [Ugg h5 hl];refine congrArg _ ?_;rcases h with h|h|h;have e:=Uu h;rw [e,Wxf e];show ((true&&_) || (false&&_))=(!false&&_);simp;have e:(Za t 2).kind=18:=Zch (Aea.1 h).1;rw [e];rfl;have e:=(Vy h).1;rw [e];rfl
theorem Upd(F p:Nd)(S:CSt):∀ i,(parA F p S i).1.length=i
 | 0=>rfl
 | i+1=>by
  show ((parA F p S i).1++[_]).length=_;rw [Aia,Upd F p S i];rfl
theorem Zkc(F p:Nd)(S:CSt):∀ i,Stp i S (parA F p S i).2
 | 0=>Stp.refl S
 | i+1=>((Zkc F p S i).trans (Wrb _ _ _ _)).trans (Uza _ _ _)
theorem Ycg(S:CSt):Bd (funS0 S) 0:=⟨Aaa _,Aaa _,fun k hk=>by
 have:k∈[0]:=hk;simp at this;omega,by show (0:Nat)<1;decide,Aaa _,fun v hv=>by cases hv⟩
theorem Vbf{S:CSt}{N:Nat}(h:Bd S N)(y:Ty):Bd { S with result:=y } N:=⟨h.vl,h.nl,h.nx,h.lv,h.sc,h.vs⟩
theorem Vcf(F p:Nd)(S:CSt)(i:Nat):Bd (parA F p (funS0 S) i).2 i:=by
 have:=(Zkc F p (funS0 S) i).bd _ (Ycg S);rwa [Afa] at this
theorem Wfe(F n:Nd)(S:CSt):Bd (funS2 F n S) (Za n 0).kids.length:=by
 have h1:Bd (funS1 F n S) (Za n 0).kids.length:=Vbf (Vcf F _ S _) _;unfold funS2;cases decide ((Za n 1).kind=9);exact Vbf ((Uza F (Za n 1) (funS1 F n S)).bd _ h1) _;exact h1
set_option maxHeartbeats 2000000
theorem Vdf{w:Aa}{D:Nat→Prop}{t:Nd}{p:Option Addr}{c:Nat}(hk:Kd w D t.kids (.slice p t.kids.length c))(hl:t.kids.length=3):p=some ⟨pb p,po p,none⟩∧Kd w D [Za t 2] (.slice (some ⟨pb p,if c=(2:Int).toNat then po p else po p+(2:Int).toNat*9,none⟩) (t.kids.length-(2:Int).toNat) (c-(2:Int).toNat)):=by
 obtain ⟨e0,p2,c2,hc2,hk2⟩:=Yr hk (i:=2) O;have hD:=Vq hk (show 0<t.kids.length by omega);obtain ⟨p',c',hpe,hc,_⟩:=hk;injection hpe with hpe _ hce;subst hpe hce;have h2:(2:Int).toNat=2:=rfl;refine ⟨e0,_,c-(2:Int).toNat,by rw [hl];rfl,by show 1≤_;omega,fun h0=>⟨_,_,rfl,hD,?_⟩⟩;rw [if_neg O];exact ⟨_,hc2,Ve hk2⟩
theorem Uqd(n:Nat):∀ (l:List Nd) (v:Da) (D:Nat→Prop) (w:Aa),Kd w D l v→l.all stmtB=true→(l.map count).sum<n→n≤1000001→Ret PP 58 #[v] w fun r w'=>r = .bool (endsL l)∧G w w':=by
 induction n with
 | zero=>intro l v D w _ _ h _;omega
 | succ n ih =>
 intro l v D w hk0 hl hc hn;obtain ⟨p,c,rfl,_⟩:=id hk0
 have hln:l.length≤1000000:=by
  have:=Wu (lT l);rw [Qm (lT l)] at this;have h2:(lT l).kids=l:=rfl;rw [h2] at this;omega
 have g:=G.refl w;refine WK 52 [0] Tryz.func58 ?_;refine IF (fun h1=>?_) fun h1=>?_;replace h1:l=[]:=List.eq_nil_of_length_eq_zero (by have:=Zch h1;omega);subst h1;refine Zk (Zn (Xf J (Ze (kq (We (Vz J J ?_))))));exact ⟨rfl,g⟩;replace h1:0<l.length:=by have:=Zdh h1;omega
 obtain ⟨t,et⟩:∃ t,t=Za (lT l) (l.length-1):=⟨_,rfl⟩;obtain ⟨e0,pt,ct,hcell,hkid⟩:=Yr (t:=lT l) hk0 (i:=l.length-1) (by show _<l.length;omega);rw [← et] at hcell hkid;obtain ⟨eE,hm⟩:=Que h1;rw [← et] at eE hm;have ht:=Ala.1 hl _ hm;have hct:=Jdc hm;have eN:((l.length:Int)-1).toNat=l.length-1:=by omega
 refine Yu (kq (Zk (Zn (Zu J (Zu J (Xva Zd J (Zz J (fun _=>Xia (Zc J) Xv (fun _=>O)) (Yja Zd J J O e0 (Va Zf J J (by rw [eN];exact hcell.grow g) (AM fun _ _ _ _ g E=>?_))))))))));refine AS fun _ _ _ g E=>?_;refine IF (fun h2=>?_) fun h2=>?_;replace h2:t.kind=20:=Zch h2;refine RTN ?_;exact ⟨by rw [eE,Zda];unfold endP;rw [h2];rfl,g⟩;replace h2:t.kind≠20:=Zdh h2;refine Zk (Zn (Yjb J J (Xf J (Ze (kq (Um J (fun h3=>?_) (fun h3=>?_)))))));replace h3:t.kind=19:=Zch h3;have hl2:=(sh19 h3 ht).1;obtain ⟨e1,p1,c1,hc1,hk1⟩:=Yr hkid (i:=0) O;refine Zk (Zn (Xa Zg J (Xn Zi J (E.g0.at_ J) (Yja Zd J J O e1 (Xa Xd J (Xn Yf J ((hc1.grow g).one (i:=0) J) (Yjb J J (Xf J (Ze (kq (We (Vz J J ?_))))))))))));exact ⟨by rw [eE,Zda];unfold endP;rw [h3];rfl,g⟩;replace h3:t.kind≠19:=Zdh h3;refine IF (fun h4=>?_) fun h4=>?_;replace h4:t.kind=10:=Zch h4;refine AU ?_;refine CP (ih _ _ D _ (hkid.grow g) (sh10 (sh10s h4 ht)) (by have:=Zjc t;omega) O) (fun w29 g29=>?_);have g:=g.trans g29;replace E:=E.grow g29;refine Xf J (Ze (kq (We (Vz J J ?_))));exact ⟨by rw [eE,Wxf h4,Ywc],g⟩;replace h4:t.kind≠10:=Zdh h4;refine Zk (Zn (Yjb J J (Xf J (Ze (kq (Um J (fun h5=>?_) (fun h5=>?_)))))));replace h5:t.kind=18:=Zch h5;obtain ⟨hl3,_,hb1,hb2⟩:=sh18 (sh18s h5 ht);have hc3:=cn3 hl3;obtain ⟨e1,p1,c1,hc1,hk1⟩:=Yr hkid (i:=1) O;obtain ⟨e2,p2,c2,hc2,hk2⟩:=Yr hkid (i:=2) O;obtain ⟨e3,hk3⟩:=Vdf hkid hl3
 refine Zk (Zn (Xa Zg J (Xn Zi J (E.g0.at_ J) (Yja Zd J J O e1 (Xa Zg J (Xn Zi J ((hc1.grow g).one (i:=4) J) (Uv J (Zy Uob Wz (aqc J aq0) J) (ih _ _ D _ (hk1.grow g) (sh10 hb1) (by have:=Zjc (Za t 1);omega) O) (fun w37 g37=>?_))))))));have g:=g.trans g37;replace E:=E.grow g37;refine Zu J (Zv J J J (fun _=>Zh Zg (Zc J)) (Wb J J J (Zt Zi (Yc J id) (fun _=>E.g0.at_ J)) (Zv J J J (fun _=>Xr Zd (Yc J id) Xv (fun _=>O) (fun _=>e2)) (Zv J J J (fun _=>Zh Xd (Yc J id)) (Wb J J J (Zt Yf (Yc J id) (fun _=>(hc2.grow g).one (i:=0) J)) (Zv J J J (fun _=>Woa (Yc J id) Xv) (Zz J (fun _=>Wn (Zc J) (Yc J id)) (Zu J (Zv J J J (fun _=>Zh Zg (Zc J)) (Wb J J J (Zt Zi (Yc J id) (fun _=>E.g0.at_ J)) (Zv J J J (fun _=>Yhb Zd (e3▸(Yc J id)) Xv (fun _=>O)) (Zha J J J (fun _=>(Zy Uob Wz (Yn (Yc J id) (Xw)) J)) (fun hc=>ih [Za t 2] _ D _ (hk3.grow g) (by simp [Yag hb2 (by have q:=hc.2;simp at q;exact q.2)]) (by show count (Za t 2)+0<n;have:=Uxa (Za t 1);omega) O) (fun w50 g50=>?_)))))))))))));have g:=g.trans g50;replace E:=E.grow g50;refine RTN ?_;exact ⟨by rw [eE,Ybg h5 hl3 hb2,Ywc,Vaf,Bool.and_assoc],g⟩;replace h5:t.kind≠18:=Zdh h5;refine RTN ?_;exact ⟨by rw [eE,Zda];unfold endP;rw [Jxg h2,Jxg h3,Jxg h4,Jxg h5];rfl,g⟩
abbrev Cst:=Bool×Int
@[reducible] def conV(c:Cst):Da:=.agg #[.bool c.1,.int .i64 c.2]
def zc:Cst×Bool:=((false,0),false)
def trC(b:Bool):Cst×Bool:=((true,bif b then 1 else 0),true)
def nmC(n:Int):Cst×Bool:=((false,n),true)
def binF(op:List UInt8)(x y:Cst):Cst×Bool :=
 bif decide (op=[61,61]) then trC (decide (x.2=y.2))
 else bif decide (op=[33,61]) then trC (!decide (x.2=y.2))
 else bif x.1 then
  bif decide (op=[38,38]) then trC (decide (x.2=1)&&decide (y.2=1))
  else bif decide (op=[124,124]) then trC (decide (x.2=1) || decide (y.2=1))
  else zc
 else bif decide (op=[43]) then nmC (IntKind.i64.wrap (x.2+y.2))
 else bif decide (op=[45]) then nmC (IntKind.i64.wrap (x.2-y.2))
 else bif decide (op=[42]) then nmC (IntKind.i64.wrap (x.2*y.2))
 else bif decide (op=[47]) then (bif !decide (y.2=0) then nmC (IntKind.i64.wrap (x.2.tdiv y.2)) else zc)
 else bif decide (op=[37]) then (bif !decide (y.2=0) then nmC (x.2.tmod y.2) else zc)
 else bif decide (op=[60]) then trC (decide (x.2<y.2))
 else bif decide (op=[60,61]) then trC (decide (x.2≤y.2))
 else bif decide (op=[62]) then trC (decide (y.2<x.2))
 else bif decide (op=[62,61]) then trC (decide (y.2≤x.2))
 else zc
def valF(t:Nd)(r:Nat→Cst×Bool):Cst×Bool :=
 bif decide (t.kind=24) then ((false,t.num),(decide (0≤t.num)&&plainB t)&&lenK t 0)
 else bif decide (t.kind=25) then ((true,t.num),((decide (t.num=0) || decide (t.num=1))&&plainB t)&&lenK t 0)
 else bif decide (t.kind=31)&&lenK t 1 then
  bif ((r 0).2&&decide (t.text=[45])) && !(r 0).1.1 then nmC (IntKind.i64.wrap (0-(r 0).1.2))
  else bif ((r 0).2&&decide (t.text=[33]))&&(r 0).1.1 then ((true,IntKind.i64.wrap (1-(r 0).1.2)),true)
  else zc
 else bif decide (t.kind=32)&&lenK t 2 then
  bif ((r 0).2&&(r 1).2)&&((r 0).1.1 == (r 1).1.1) then binF t.text (r 0).1 (r 1).1
  else zc
 else zc
def valC(t:Nd):Cst×Bool:=para (fun t l=>valF t fun i=>l.getD i zc) t
theorem getD_map'{α β:Type}(f:α→β)(l:List α)(i:Nat)(d:α):(l.map f).getD i (f d)=f (l.getD i d):=by
 simp only [Aga,List.getElem?_map];cases l[i]? <;> rfl
theorem Vef:valC nd0=zc:=by rw [valC,Zca];rfl
theorem Ydg(t:Nd):valC t=valF t fun i=>valC (Za t i):=by
 have h:∀ i,(t.kids.map (para (fun t l=>valF t fun i=>l.getD i zc))).getD i zc=valC (Za t i):=fun i=>by
  have:=getD_map' valC t.kids i nd0;rw [Vef] at this;exact this
 rw [valC,Zca];exact congrArg (valF t) (funext h)
@[reducible] def retC(x:Cst×Bool):Da:=.tuple #[.int .i64 x.1.2,.bool x.1.1,.bool x.2]
def RetD(D:Nat→Prop)(t:Nd)(r:Da)(w:Aa):Prop:=∃ p c,r=ndV t (.slice p t.kids.length c)∧Kd w D t.kids (.slice p t.kids.length c)
theorem RetD.grow{D:Nat→Prop}{t:Nd}{r:Da}{w w':Aa}(h:RetD D t r w)(g:G w w'):RetD D t r w':=by
 obtain ⟨p,c,e,k⟩:=h;exact ⟨p,c,e,k.grow g⟩
theorem RetD.mono{D D':Nat→Prop}{t:Nd}{r:Da}{w:Aa}(h:RetD D t r w)(hD:∀ b,D b→D' b):RetD D' t r w:=by
 obtain ⟨p,c,e,k⟩:=h;exact ⟨p,c,e,k.mono fun b hb _=>hD b hb⟩
@[reducible] def GE(n:Nat):Nat→Prop:=fun b=>n≤b
theorem OwnK.low{e:Ba}{D:Nat→Prop}{base:Nat}{w:Aa}{ks:List Nd}{s:Da}(h:OwnK e D base w ks s):OwnK e (fun b=>D b∧b<w.heap.size) base w ks s:=by
 have hlt:=h.lt;obtain ⟨xs,h1,h2,h3⟩:=h;exact ⟨xs,h1,h2.lt.mono fun b hb _=>⟨⟨hb.1.1,hb.2⟩,hb.1.2⟩,fun b hb=>⟨h3 b hb,hlt b hb⟩⟩
theorem OwnK.mono{e:Ba}{D D':Nat→Prop}{base:Nat}{w:Aa}{ks:List Nd}{s:Da}(h:OwnK e D base w ks s)(hD:∀ b,D b→D' b):OwnK e D' base w ks s:=by
 obtain ⟨xs,h1,h2,h3⟩:=h;exact ⟨xs,h1,h2.mono fun b hb _=>⟨hD b hb.1,hb.2⟩,fun b hb=>hD b (h3 b hb)⟩
def unN(n pos:Int):Nd:=.mk 31 [45] 0 pos [.mk 24 [] n pos [] ty0 0 0] ty0 0 0
def replT(c:Cst)(pos:Int):Nd×Bool :=
 bif c.1 then (.mk 25 [] c.2 pos [] ty0 0 0,true)
 else bif decide (0≤c.2) then (.mk 24 [] c.2 pos [] ty0 0 0,true)
 else bif !decide (c.2 = -9223372036854775808) then (unN (IntKind.i64.wrap (0-c.2)) pos,true)
 else (nd0,false)
def foldF(t:Nd)(l:List Nd):Nd :=
 bif (valC t).2&&(replT (valC t).1 t.pos).2 then (replT (valC t).1 t.pos).1
 else bif decide (t.kind=18)&&(valC (Za t 0)).2 then
  bif decide ((valC (Za t 0)).1.2=1) then l.getD 1 nd0
  else bif decide ((Za t 2).kind=9) then .mk 10 [] 0 t.pos [] ty0 0 0
  else l.getD 2 nd0
 else .mk t.kind t.text (bif decide (t.kind=24) || decide (t.kind=25) then t.num else 0) t.pos l ty0 0 0
def foldT(t:Nd):Nd:=para foldF t
theorem Qbc(t:Nd):foldT t=foldF t (t.kids.map foldT):=Zca foldF t
theorem RetNd.mono{t:Nd}{b b':Nat}{v:Da}{w w':Aa}(h:RetNd t b v w)(hb:b'≤b)(g:G w w'):RetNd t b' v w':=by
 obtain ⟨p,c,rfl,hk⟩:=h;exact ⟨p,c,rfl,(hk.mono fun k hk _=>Nat.le_trans hb hk).grow g⟩
theorem Yeg{t:Nd}(h:t.kind=18)(hp:permF t=true):t.kids.length=3:=by
 rw [Uo,locB,Aca,Aca,formB,h] at hp;have hf:kidsB t [expK,memK [10],memK [10,18,9]]=true:=hp.1.2;rw [kidsB,Aca,Zah] at hf;exact hf.1
theorem Zed{t:Nd}{i:Nat}(h:i<t.kids.length):(t.kids.map foldT).getD i nd0=foldT (Za t i):=by
 rw [Yj h];simp [Aga,Ada h]
def valO(t:Nd):Option Cst:=bif (valC t).2 then some (valC t).1 else none
def oneO(t:Nd)(x:Option Cst):Option Cst:=match x with
 | some c=>bif decide (t.text=[45]) && !c.1 then some (false,IntKind.i64.wrap (0-c.2)) else bif decide (t.text=[33])&&c.1 then some (true,IntKind.i64.wrap (1-c.2)) else none
 | none=>none
def twoO(op:List UInt8)(x y:Option Cst):Option Cst:=match x,y with
 | some a,some b=>bif a.1 == b.1 then (bif (binF op a b).2 then some (binF op a b).1 else none) else none
 | _,_=>none
def oF(t:Nd)(r:Nat→Option Cst):Option Cst :=
 bif decide (t.kind=24) then (bif (decide (0≤t.num)&&plainB t)&&lenK t 0 then some (false,t.num) else none)
 else bif decide (t.kind=25) then (bif ((decide (t.num=0) || decide (t.num=1))&&plainB t)&&lenK t 0 then some (true,t.num) else none)
 else bif decide (t.kind=31)&&lenK t 1 then oneO t (r 0)
 else bif decide (t.kind=32)&&lenK t 2 then twoO t.text (r 0) (r 1)
 else none
theorem Yfg(t:Nd):valO t=oF t fun i=>valO (Za t i):=by
 rw [valO,Ydg,valF,oF]
 cases decide (t.kind=24) with
 | true=>rfl
 | false =>
 cases decide (t.kind=25) with
 | true=>rfl
 | false =>
 cases decide (t.kind=31)&&lenK t 1 with
 | true =>
  simp only [Zfh,Zeh,valO,oneO]
  cases (valC (Za t 0)).2 with
  | false=>rfl
  | true =>
   simp only [Aka,Zfh];cases decide (t.text=[45]) <;> cases decide (t.text=[33]) <;> cases (valC (Za t 0)).1.1 <;> rfl
 | false =>
 cases decide (t.kind=32)&&lenK t 2 with
 | true =>
  simp only [Zfh,Zeh,valO,twoO];cases (valC (Za t 0)).2 <;> cases (valC (Za t 1)).2 <;> first|rfl|skip
  simp only [Aka,Zfh];cases (valC (Za t 0)).1.1 == (valC (Za t 1)).1.1 <;> rfl
 | false=>rfl
theorem valO_iff{t:Nd}{c:Cst}:valO t=some c↔(valC t).2=true∧(valC t).1=c:=by
 rw [valO];cases (valC t).2 <;> simp
theorem Qve{t:Nd}{c:Cst}(h:valO t=some c):t.kind=24∨t.kind=25∨(t.kind=31∧t.kids.length=1)∨(t.kind=32∧t.kids.length=2):=by
 rw [Yfg,oF] at h;by_cases h1:t.kind=24;exact .inl h1;by_cases h2:t.kind=25;exact .inr (.inl h2);rw [Jxg h1,Jxg h2] at h
 cases h3:decide (t.kind=31)&&lenK t 1 with
 | true =>
  rw [Aca,Zah] at h3;exact .inr (.inr (.inl ⟨h3.1,by (have hz:=h3.2;first|(unfold lenK at hz;simp at hz;omega)|(simp at hz;omega))⟩))
 | false =>
  cases h4:decide (t.kind=32)&&lenK t 2 with
  | true =>
   rw [Aca,Zah] at h4;exact .inr (.inr (.inr ⟨h4.1,by (have hz:=h4.2;first|(unfold lenK at hz;simp at hz;omega)|(simp at hz;omega))⟩))
  | false=>rw [h3,h4] at h;cases h
/-! replaced constants -/
/-! folded trees, case by case -/
def rebT(t:Nd):Nd:=.mk t.kind t.text (bif decide (t.kind=24) || decide (t.kind=25) then t.num else 0) t.pos (t.kids.map foldT) ty0 0 0
def blP(pos:Int):Nd:=.mk 10 [] 0 pos [] ty0 0 0
theorem Yae{t:Nd}(hp:permF t=true) :
 (∃ c,valO t=some c∧(replT c t.pos).2=true∧foldT t=(replT c t.pos).1)∨
 (t.kind=18∧t.kids.length=3∧valO (Za t 0)≠none∧(foldT t=foldT (Za t 1)∨((Za t 2).kind=9∧foldT t=blP t.pos)∨((Za t 2).kind≠9∧foldT t=foldT (Za t 2))))∨
 ((∀ c,valO t=some c→(replT c t.pos).2=false)∧(t.kind=18→valO (Za t 0)=none)∧foldT t=rebT t):=by
 cases h1:(valC t).2&&(replT (valC t).1 t.pos).2 with
 | true =>
  rw [Aca] at h1;exact .inl ⟨(valC t).1,valO_iff.2 ⟨h1.1,rfl⟩,h1.2,by rw [Qbc,foldF,h1.1,h1.2];rfl⟩
 | false =>
  have hn:∀ c,valO t=some c→(replT c t.pos).2=false:=fun c hc=>by
   obtain ⟨e1,e2⟩:=valO_iff.1 hc;rw [← e2];rw [e1] at h1;exact h1
  cases h2:decide (t.kind=18)&&(valC (Za t 0)).2 with
  | true =>
   have h2':=h2;rw [Aca,Zah] at h2';have hl:=Yeg h2'.1 hp;refine .inr (.inl ⟨h2'.1,hl,by rw [valO,h2'.2];exact Option.some_ne_none _,?_⟩);rw [Qbc t,foldF,h1,h2];simp only [Zfh,Zeh];rw [Zed (show 1<t.kids.length by omega),Zed (show 2<t.kids.length by omega)]
   cases decide ((valC (Za t 0)).1.2=1) with
   | true=>exact .inl rfl
   | false =>
    simp only [Zeh];by_cases h9:(Za t 2).kind=9;rw [Jyg h9];exact .inr (.inl ⟨h9,rfl⟩);rw [Jxg h9];exact .inr (.inr ⟨h9,rfl⟩)
  | false =>
   refine .inr (.inr ⟨hn,fun h=>?_,by rw [Qbc,foldF,h1,h2];rfl⟩);rw [Jyg h,Aka] at h2;rw [valO,h2];rfl
theorem Qwe{t:Nd}(h1:t.kind≠24)(h2:t.kind≠25)(h3:t.kind≠31)(h4:t.kind≠32):valO t=none:=by
 cases h:valO t with
 | none=>rfl
 | some c=>rcases Qve h with e|e|e|e <;> first|exact absurd e (by assumption)|exact absurd e.1 (by assumption)
theorem Vff{t:Nd}(hp:permF t=true)(h1:valO t=none)(h2:t.kind≠18):foldT t=rebT t:=by
 rcases Yae hp with ⟨c,h,_⟩|⟨h,_⟩|⟨_,_,e⟩;rw [h1] at h;cases h;exact absurd h h2;exact e
/-! errors -/
theorem Urd{a e:Int}{S:CSt}(he:e≠0):(failS a e S).ee≠0:=by
 unfold failS;by_cases h:S.ee=0;rw [Jyg h];exact he;rw [Jxg h];exact h
theorem fu{b:Bool}{a e:Int}{S:CSt}(h:(failU b a e S).ee=0)(he:e≠0:=by decide):b=true∧S.ee=0:=by
 cases b;exact absurd h (Urd he);exact ⟨rfl,h⟩
/-! states that are alike but for numbers -/
def vk(v:Vr):List UInt8×Ty×Nat×Nat:=(v.name,v.typ,v.level,v.scope)
structure Sim (S T:CSt):Prop where
  vars:T.vars.map vk=S.vars.map vk
  scope:T.scope=S.scope
  level:T.level=S.level
  result:T.result=S.result
  es:S.ee=0
  et:T.ee=0
  sc:Sc S
theorem Zfd(sc:Nat)(l:List Vr):(dropV sc l).map vk=((l.map vk).reverse.dropWhile fun k=>decide (k.2.2.2=sc)).reverse:=by
 unfold dropV;rw [List.map_reverse,← List.map_reverse (l:=l),List.dropWhile_map];rfl
theorem Usd(S:CSt)(s:List UInt8):dupV S s=(S.vars.map vk).any fun k=>decide (k.2.2.2=S.scope)&&decide (k.1=s):=by
 rw [dupV,List.any_map];rfl
theorem Sim.open{S T:CSt}(h:Sim S T):Sim (openS S) (openS T):=⟨h.vars,congrArg (· + 1) h.scope,h.level,h.result,h.es,h.et,Uua h.sc⟩
theorem Sim.shut{S T:CSt}(h:Sim S T)(hs:Sc (shutS S)):Sim (shutS S) (shutS T) :=
 ⟨by show (dropV _ _).map vk=(dropV _ _).map vk;rw [Zfd,Zfd,h.vars,h.scope],congrArg (· - 1) h.scope,h.level,h.result,h.es,h.et,hs⟩
theorem Sim.lit{S T:CSt}(h:Sim S T):Sim (litS S) (litS T):=⟨h.vars,h.scope,congrArg (· + 1) h.level,rfl,h.es,h.et,h.sc⟩
theorem Sim.unlit{S T U V:CSt}(h:Sim S T)(k:Sim U V):Sim { U with level:=U.level-1,result:=S.result } { V with level:=V.level-1,result:=T.result } :=
 ⟨k.vars,k.scope,congrArg (· - 1) k.level,h.result,k.es,k.et,k.sc⟩
theorem Sim.failu{S T:CSt}{b b':Bool}{a a' e e':Int}(h:S.ee=0→Sim S T)(hb:b=true→b'=true)(hz:(failU b a e S).ee=0)(he:e≠0:=by decide):Sim (failU b a e S) (failU b' a' e' T):=by
 obtain ⟨h1,h2⟩:=fu hz he;rw [h1,hb h1];exact h h2
theorem Sim.dup{S T:CSt}(h:Sim S T)(s:List UInt8):dupV T s=dupV S s:=by rw [Usd,Usd,h.vars,h.scope]
theorem Sim.decl{S T:CSt}(h:S.ee=0→Sim S T)(s:List UInt8)(y:Ty)(a a':Int)(hz:(declS s y a S).ee=0):Sim (declS s y a S) (declS s y a' T):=by
 obtain ⟨h1,h2⟩:=fu (b:=!dupV S s) (a:=a) (e:=6) (S:=S) hz;have h:=h h2;have h3:(!dupV T s)=true:=by rw [h.dup];exact h1
 have hs:=(Xba s y a S).sc h.sc;unfold declS at hs ⊢;rw [h1] at hs ⊢;rw [h3];refine ⟨?_,h.scope,h.level,h.result,h.es,h.et,hs⟩;show (T.vars++[_]).map vk=(S.vars++[_]).map vk;rw [Aqa,Aqa,h.vars];show _++[(s,y,T.level,T.scope)]=_++[(s,y,S.level,S.scope)];rw [h.level,h.scope]
theorem Sim.frame{S T U V:CSt}{d d':Nat}(h:Sim S T)(h1:Vs S U)(h2:Stp d S U)(h3:U.ee=0)(k1:Vs T V)(k2:Stp d' T V)(k3:V.ee=0):Sim U V :=
 ⟨by rw [k1.vars,h1.vars,h.vars],by rw [k1.scope,h1.scope,h.scope],by rw [k2.level,h2.level,h.level],by rw [k2.result,h2.result,h.result],h3,k3,h1.sc h.sc⟩
/-! nodes that are alike -/
structure XR (x y:Nd):Prop where
  ty:y.ty=x.ty
  ref:y.ref=x.ref
  kd:y.kind=x.kind∨(x.kind≠27∧x.kind≠28∧x.kind≠29)
def SEx(c c':Ck):Prop:=∀ S T,Sim S T→(c.ex S).2.ee=0→Sim (c.ex S).2 (c'.ex T).2∧XR (c.ex S).1 (c'.ex T).1
def SMem(c c':Ck):Prop:=∀ S T,Sim S T→(c.mem S).2.ee=0→Sim (c.mem S).2 (c'.mem T).2∧(c'.mem T).1.2=(c.mem S).1.2∧(c'.mem T).1.1.ty=(c.mem S).1.1.ty
def SRcv(c c':Ck):Prop:=∀ S T,Sim S T→((c.rcv S).2=true→(c'.rcv T).2=true∧(c'.rcv T).1.ty=(c.rcv S).1.ty)∧((c.rcv S).2=false→(c.ex S).2.ee=0→(c'.rcv T).2=false)
def SCal(c c':Ck):Prop:=∀ S T,Sim S T→(c.cal S).2.ee=0→Sim (c.cal S).2 (c'.cal T).2∧(c'.cal T).1.2=(c.cal S).1.2
def SSt(c c':Ck):Prop:=∀ S T,Sim S T→(c.st S).2.ee=0→Sim (c.st S).2 (c'.st T).2
def SSts(c c':Ck):Prop:=∀ S T,Sim S T→(c.sts S).2.ee=0→Sim (c.sts S).2 (c'.sts T).2
def SCas(c c':Ck):Prop:=∀ f S T,Sim S T→(c.cas f S).2.ee=0→Sim (c.cas f S).2 (c'.cas f T).2
def elsR(k:Int)(c:Ck)(S:CSt):CSt:=bif decide (k=10) then (c.blk S).2 else bif decide (k=18) then (c.ifs S).2 else S
def SEls(k k':Int)(c c':Ck):Prop:=∀ S T,Sim S T→(elsR k c S).ee=0→Sim (elsR k c S) (elsR k' c' T)
structure FR (k k':Int) (c c':Ck):Prop where
  ex:expK k=true→SEx c c'
  mem:k=28→SMem c c'
  rcv:expK k=true→SRcv c c'
  cal:expK k=true→SCal c c'
  st:stK k=true→SSt c c'
  sts:k=10→SSts c c'
  cas:k=23→SCas c c'
  els:k=10∨k=18∨k=9→SEls k k' c c'
/-! declarations of the folded file -/
structure FOk (F:Nd):Prop where
  kind:F.kind=1
  perm:permF F=true
  ok:okNd F
theorem FOk.reb{F:Nd}(H:FOk F):foldT F=rebT F:=Vff H.perm (Qwe (by rw [H.kind];decide) (by rw [H.kind];decide) (by rw [H.kind];decide) (by rw [H.kind];decide)) (by rw [H.kind];decide)
theorem FOk.kids{F:Nd}(H:FOk F):(foldT F).kids=F.kids.map foldT:=by rw [H.reb];rfl
/-! shapes of declarations -/
theorem Qca{t:Nd}(hp:permF t=true):(formB t&&t.kids.all permF)=true:=by
 rw [Uo,locB,Aca,Aca] at hp;exact Aea.2 ⟨hp.1.2,hp.2⟩
theorem Xvd{t:Nd}(h:typK t.kind=true)(hp:permF t=true):Xaa t=true:=by rw [Ubc,h,hp];rfl
theorem Ygg{t:Nd}(h:t.kind=9)(hp:permF t=true):noneB t=true:=by rw [Wpb,Jyg h,hp];rfl
theorem pf4{t:Nd}(h:t.kind=4)(hp:permF t=true):t.kids.length=3∧((Za t 0).kind=5∧permF (Za t 0)=true)∧(Xaa (Za t 1)=true∨noneB (Za t 1)=true)∧((Za t 2).kind=10∧permF (Za t 2)=true):=by
 have hf:=Qca hp;rw [formB,h] at hf;have hf:(kidsB t [memK [5],fun k=>typK k || memK [9] k,memK [10]]&&t.kids.all permF)=true:=hf;rw [Ygf] at hf;simp only [Aca,Yga,Zah,Bool.or_eq_true] at hf;refine ⟨by have:=hf.1;(have hz:=this;first|(unfold lenK at hz;simp at hz;omega)|(simp at hz;omega)),hf.2.1.1,?_,hf.2.2⟩;rcases hf.2.1.2.1 with q|q;exact .inl (Xvd q hf.2.1.2.2);exact .inr (Ygg q hf.2.1.2.2)
theorem pf6{t:Nd}(h:t.kind=6)(hp:permF t=true):t.kids.length=2∧Xaa (Za t 0)=true∧permF (Za t 1)=true:=by
 have hf:=Qca hp;rw [formB,h] at hf;have hf:(kidsB t [typK,fun k=>expK k || memK [9] k]&&t.kids.all permF)=true:=hf;rw [Yvd] at hf;simp only [Aca] at hf;exact ⟨by have:=hf.1;(have hz:=this;first|(unfold lenK at hz;simp at hz;omega)|(simp at hz;omega)),Xvd hf.2.1.1 hf.2.1.2,hf.2.2.2⟩
theorem pf3{t:Nd}(h:t.kind=3)(hp:permF t=true):t.kids.length=1∧Xaa (Za t 0)=true:=by
 have hf:=Qca hp;rw [formB,h] at hf;have hf:(kidsB t [typK]&&t.kids.all permF)=true:=hf;rw [Jzd] at hf;simp only [Aca] at hf;exact ⟨by have:=hf.1;(have hz:=this;first|(unfold lenK at hz;simp at hz;omega)|(simp at hz;omega)),Xvd hf.2.1 hf.2.2⟩
theorem Yna{t:Nd}(h:t.kind=2∨t.kind=5)(hp:permF t=true):∀ f∈t.kids,f.kind=3∧permF f=true:=by
 have hf:=Qca hp;have hf:(everyB t (memK [3])&&t.kids.all permF)=true:=by rcases h with h|h <;> (rw [formB,h] at hf;exact hf)
 rw [Aca,everyB,Ala,Ala] at hf;intro f hm;have:=hf.1 f hm;rw [Yga,Zah] at this;exact ⟨this,hf.2 f hm⟩
/-! what the declarations tell -/
theorem Wge{P:Program}{n:Nat}{σ:List Ent}{c:Prop}{wb:Aa}{ty:Ba}{t kt e b:Nat}{x:Operand}{es:List (List UInt8×Da)}(ht:P.underlying t=some (.map kt e))(h:MapS wb b es)(hx:Ev n σ c x (.map (some b))) :
 Rd P n σ c wb (.call { callee:=.builtin .len,args:=#[x],argTypes:=#[t] }) ty (.int .i64 es.length):=.mk fun d pos after gd act ha hc w1 hg=>by
 obtain ⟨ms,cl,hb,hm⟩:=h.grow hg
 have hl:ms.size=es.length:=by
  have:=congrArg List.length hm;rwa [List.length_map,List.length_map,Array.length_toList] at this
 simp [execOp,resolve,invoke,builtin,hx act ha hc,Builtin.len_,run_underlying ht,MapKept.run_getObj_map hb,goInt,hl]
/-! the file's shape -/
theorem Vab{F:Nd}(h:validB F=true):F.kind=1∧permF F=true:=by
 unfold validB at h;simp only [Aca] at h;unfold permB at h;simp only [Aca,Zah] at h;exact ⟨h.1,h.2.1⟩
theorem Xjc{F:Nd}(h1:F.kind=1)(hp:permF F=true):∀ d∈F.kids,(d.kind=2∨d.kind=6∨d.kind=4)∧permF d=true:=by
 have hf:=Qca hp;rw [formB,h1] at hf;have hf:((!(F.kids.any Vu)&&everyB F (memK [2,6,4]))&&F.kids.all permF)=true:=hf;simp only [Aca,everyB,Ala] at hf;exact fun d hm=>⟨by have:=hf.1.2 d hm;unfold memK at this;simpa using this,hf.2 d hm⟩
theorem Jpa{t:Nd}{i:Nat}(h:i<t.kids.length):Za t i∈t.kids:=by rw [Yj h];exact Ama h
theorem Qcc{t:Nd}{i:Nat}(h:i<t.kids.length):t.kids.take (i+1)=t.kids.take i++[Za t i]:=by
 rw [Yj h,Ara h]
/-! names that are told twice -/
theorem Ybe{F:Nd}{S:CSt}:∀ {i:Nat},(∀ j,j<i→dupAt F j=false)→namA F S i=S
 | 0,_=>rfl
 | i+1,h=>by
  show failU (!dupAt F i) _ 6 (namA F S i)=S;rw [h i O,Ybe fun j hj=>h j O];rfl
theorem Vgf(F:Nd)(S:CSt)(i:Nat):∀ k,Er (namA F S i) (namA F S (i+k))
 | 0=>Er.refl _
 | k+1=>(Vgf F S i k).failu _ _ _
theorem Yhg{F:Nd}{S:CSt}(he:S.ee=0){i n:Nat}(hi:i<n)(h0:∀ j,j<i→dupAt F j=false)(h:dupAt F i=true):(namA F S n).ee=6∧(namA F S n).ea=(Za F i).pos:=by
 have e:namA F S (i+1) = { S with ea:=(Za F i).pos,ee:=6 }:=by
  show failU (!dupAt F i) _ 6 (namA F S i)=_;rw [h,Ybe h0];exact Wja he _ _
 have k:=Vgf F S (i+1) (n-(i+1));rw [show i+1+(n-(i+1))=n by omega,e] at k;exact k (show (6:Int)≠0 by decide)
/-! tables that grow -/
theorem Zgd(kd:Int)(f:Nat→Nd→Da){F:Nd}{i:Nat}(h:i<F.kids.length):numK kd f (F.kids.take (i+1)) 0=numK kd f (F.kids.take i) 0++(bif decide ((Za F i).kind=kd) then [((Za F i).text,f (cntK kd (F.kids.take i)) (Za F i))] else []):=by
 rw [Qcc h,Ukc,Afa]
theorem Jqa(kd:Int)(f:Nat→Nd→Da){F:Nd}{i:Nat}(h:i<F.kids.length)(hk:(Za F i).kind≠kd):numK kd f (F.kids.take (i+1)) 0=numK kd f (F.kids.take i) 0:=by
 rw [Zgd kd f h,Jxg hk];exact List.append_nil _
theorem Zlc{kd:Int}(f:Nat→Nd→Da){F:Nd}{i:Nat}(h:i<F.kids.length)(hk:(Za F i).kind=kd):numK kd f (F.kids.take (i+1)) 0=numK kd f (F.kids.take i) 0++[((Za F i).text,f (cntK kd (F.kids.take i)) (Za F i))]:=by
 rw [Zgd kd f h,Jyg hk];rfl
theorem Vvb{F:Nd}{i:Nat}(h:i<F.kids.length):allK (F.kids.take (i+1))=allK (F.kids.take i)++[((Za F i).text,.bool true)]:=by
 rw [Qcc h];unfold allK;rw [Aqa];rfl
theorem Qvb{kd:Int}{f g:Nat→Nd→Da}:∀ (l:List Nd) (k:Nat),(∀ j d,j<k+cntK kd l→f j d=g j d)→numK kd f l k=numK kd g l k
 | [],k,h=>rfl
 | d::l,k,h=>by
  unfold numK;cases hd:decide (d.kind=kd);exact Qvb (kd:=kd) l k fun j e hj=>h j e (by rw [Wha kd,hd];show j<k+(0+cntK kd l);omega);have h1:=Qvb (kd:=kd) (f:=f) (g:=g) l (k+1) fun j e hj=>h j e (by rw [Wha kd,hd];show j<k+(1+cntK kd l);omega);have h2:=h k d (by rw [Wha kd,hd];show k<k+(1+cntK kd l);omega);rw [h1,h2];rfl
theorem Uhg{F:Nd}{i:Nat}(h:dupAt F i=false):∀ d∈F.kids.take i,d.text≠(Za F i).text:=fun d hd e=>by
 unfold dupAt at h;rw [List.any_eq_false] at h;exact h d hd (Jyg e)
theorem Zzb{F:Nd}{i:Nat}(h:dupAt F i=false)(kd:Int)(f:Nat→Nd→Da):lookS (numK kd f (F.kids.take i) 0) (Za F i).text=none:=Yyc (Uhg h)
theorem Zhd{F:Nd}{i:Nat}(h:dupAt F i=false):lookS (allK (F.kids.take i)) (Za F i).text=none:=by
 rw [Vxd];unfold dupAt at h;rw [h];rfl
theorem Yig{F:Nd}{kd:Int}{j i:Nat}(hj:j<i)(hi:i≤F.kids.length)(hk:(Za F j).kind=kd):cntK kd (F.kids.take j)<cntK kd (F.kids.take i):=by
 have h1:cntK kd (F.kids.take (j+1))=cntK kd (F.kids.take j)+1:=by
  rw [Qcc O,Xjf,Jyg hk];rfl
 have h2:cntK kd (F.kids.take (j+1))≤cntK kd (F.kids.take i):=by
  unfold cntK;exact ((List.take_sublist_take_left O).filter _).length_le
 omega
theorem Zmc(kd:Int)(s:List UInt8):∀ (l:List Nd) (k:Nat),0≤(findK kd s l k).2→∃ j,∃ h:j<l.length,l[j].kind=kd∧(findK kd s l k).1=l[j]∧(findK kd s l k).2.toNat=k+cntK kd (l.take j)
 | [],k,h=>absurd h (show ¬ (0:Int)≤-1 by decide)
 | d::l,k,h=>by
  unfold findK at h ⊢;cases hd:decide (d.kind=kd);rw [hd,Zeh] at h;obtain ⟨j,hj,h1,h2,h3⟩:=Zmc kd s l k h;exact ⟨j+1,by simp;omega,h1,h2,by rw [Ava,Wha,hd];show _=k+(0+_);rw [Afa];exact h3⟩;rw [hd,Zfh] at h;cases hs:decide (d.text=s);rw [hs,Zeh] at h;obtain ⟨j,hj,h1,h2,h3⟩:=Zmc kd s l (k+1) h;exact ⟨j+1,by simp;omega,h1,h2,by rw [Ava,Wha,hd];show _=k+(1+_);rw [← Nat.add_assoc];exact h3⟩;exact ⟨0,by simp,Zch hd,rfl,by show (k:Int).toNat=k+0;omega⟩
/-! rows of types -/
section
variable {w w':Aa} {TB:List Nat} {l:List Ty} {v:Da}
theorem RowM.keepM{m:Nat}{es:List (List UInt8×Da)}(h:RowM TB w l v)(hM:MapS w m es)(hg:w.grownBy w' (some m)):RowM TB w' l v:=h.same fun k _ hk ⟨cs,fr,hc⟩=>hg.block k hk fun e=>by
 injection e with e;subst e;obtain ⟨ms,c,hb,_⟩:=hM;rw [hb] at hc;injection hc with hc;cases hc
theorem RowM.keepB{j:Nat}{e:Ba}{xs:List Da}(h:RowM TB w l v)(hB:Blk w j e xs)(he:Nat.beq e 24=false)(hg:w.grownBy w' (some j)):RowM TB w' l v:=h.same fun k _ hk ⟨cs,fr,hc⟩=>hg.block k hk fun e=>by
 injection e with e;subst e;unfold Blk at hB;rw [hB] at hc;injection hc with hc;injection hc with _ hc;subst hc;simp at he
theorem RowM.keepR{row:Option Nat}(h:RowM TB w l v)(hr:∀ k,row=some k→k∉TB)(hg:w.grownBy w' row):RowM TB w' l v:=h.same fun k hk hlt _=>hg.block k hlt fun e=>hr k e.symm hk
theorem RowM.mono{Y:List Nat}(h:RowM TB w l v)(hY:∀ j∈TB,j∈Y):RowM Y w l v:=by
 obtain ⟨p,c,e,h⟩:=h;refine ⟨p,c,e,fun h0=>?_⟩;obtain ⟨b,o,cs,fr,h1,h2,h3⟩:=h h0;exact ⟨b,o,cs,fr,h1,hY b h2,h3⟩
theorem Vhf{lo:Nat}(h:w.ownsRow lo 24 2 v l.length (l.flatMap tyCells)):RowM v.ownBlock.toList w l v:=by
 obtain ⟨a,c,hv,_⟩:=Zya h;refine ⟨a,c,hv,fun h0=>?_⟩;obtain ⟨g,c',hv',_,hR,_⟩:=Jja h h0;rcases h.2 with ⟨h1,_⟩|⟨g',cap,cur,h1,h2,h3,_⟩;rw [hv'] at h1;injection h1 with h1;cases h1;rw [hv'] at h1;injection h1 with h1 _ _;injection h1 with h1;injection h1 with h1 _ _;subst h1;rw [hv] at hv';injection hv' with hv' _ _;subst hv';exact ⟨g,0,_,_,rfl,by rw [hv];exact List.mem_singleton.2 rfl,h3,hR⟩
end
structure TabE (F:Nd) (n0 b:Nat) (fv:Da) (ms mg mn mf m2:Nat) (pv:Nat→Da) (TB:List Nat) (es eg en ef eq:List (List UInt8×Da)) (i:Nat) (w:Aa):Prop where
  B:Blk w b 59 (pcCells F fv ms mg mn mf (.slice none 0 0) (.slice none 0 0) (.slice none 0 0))
  hs:MapS w ms es
  hg:MapS w mg eg
  hn:MapS w mn en
  hf:MapS w mf ef
  hq:MapS w m2 eq
  hp:∀ j,j<i→(Za F j).kind=4→RowM TB w (parT (Za F j)) (pv (cntK 4 (F.kids.take j)))
  tb:∀ j∈TB,n0≤j∧j<w.heap.size
  ds:(ms≠mg∧ms≠mn∧ms≠mf∧ms≠m2)∧(mg≠mn∧mg≠mf∧mg≠m2)∧(mn≠mf∧mn≠m2)∧mf≠m2
section
variable {F:Nd} {n0 b:Nat} {fv:Da} {ms mg mn mf m2:Nat} {pv:Nat→Da} {TB:List Nat} {es eg en ef eq es' eg' en' ef' eq':List (List UInt8×Da)} {i:Nat} {w w':Aa}
theorem TabE.fr(h:TabE F n0 b fv ms mg mn mf m2 pv TB es eg en ef eq i w)(hz:w.heap.size≤w'.heap.size)(hB:w'.heap[b]? = w.heap[b]?)(hP:∀ l v,RowM TB w l v→RowM TB w' l v)(s:MapS w' ms es')(g:MapS w' mg eg')(n:MapS w' mn en')(f:MapS w' mf ef')(q:MapS w' m2 eq'):TabE F n0 b fv ms mg mn mf m2 pv TB es' eg' en' ef' eq' i w' :=
 ⟨hB.trans h.B,s,g,n,f,q,fun j hj hk=>hP _ _ (h.hp j hj hk),fun j hj=>⟨(h.tb j hj).1,Aua (h.tb j hj).2 hz⟩,h.ds⟩
theorem TabE.grow(h:TabE F n0 b fv ms mg mn mf m2 pv TB es eg en ef eq i w)(g:G w w'):TabE F n0 b fv ms mg mn mf m2 pv TB es eg en ef eq i w' :=
 h.fr g.size (g.block h.B.lt) (fun _ _ k=>k.grow g) (h.hs.grow g) (h.hg.grow g) (h.hn.grow g) (h.hf.grow g) (h.hq.grow g)
theorem TabE.keep(h:TabE F n0 b fv ms mg mn mf m2 pv TB es eg en ef eq i w){j:Nat}{e:Ba}{xs:List Da}(hg:w.grownBy w' (some j))(hB:Blk w j e xs)(he:(Nat.beq e 24 || Nat.beq e 59)=false):TabE F n0 b fv ms mg mn mf m2 pv TB es eg en ef eq i w':=by
 have he:=Ata.1 he;have m:∀ {m es},MapS w m es→MapS w' m es:=fun hm=>hm.keep hg fun q=>hm.nblk hB (by injection q);exact h.fr hg.size (hg.block b h.B.lt fun q=>by injection q with q;subst q;unfold Blk at hB;have:=h.B;unfold Blk at this;rw [this] at hB;injection hB with hB;injection hB with _ hB;subst hB;simp at he) (fun _ _ k=>k.keepB hB he.1 hg) (m h.hs) (m h.hg) (m h.hn) (m h.hf) (m h.hq)
theorem TabE.keepO(h:TabE F n0 b fv ms mg mn mf m2 pv TB es eg en ef eq i w){lo z m:Nat}{v:Da}{xs:List Da}(ho:w.ownsRow lo 24 z v m xs)(hg:w.grownBy w' v.ownBlock)(hlo:∀ j∈TB,j<lo):TabE F n0 b fv ms mg mn mf m2 pv TB es eg en ef eq i w':=by
 have mm:∀ {m es},MapS w m es→MapS w' m es:=fun hm=>hm.keep hg fun q=>by
  obtain ⟨ms,c,hb,_⟩:=hm;rcases ho.2 with ⟨h1,_⟩|⟨g,cap,cur,h1,h2,h3,_⟩;rw [h1] at q;cases q;rw [h1] at q;injection q with q;subst q;rw [hb] at h3;injection h3 with h3;cases h3
 exact h.fr hg.size (hg.block b h.B.lt fun q=>Xy ho h.B rfl q.symm) (fun _ _ k=>k.keepR (fun j hj hm=>by have:=(ho.lt j hj).1;have:=hlo j hm;omega) hg) (mm h.hs) (mm h.hg) (mm h.hn) (mm h.hf) (mm h.hq)
theorem Xu{a c:Nat}(h:a≠c):some a≠some c:=fun e=>h (by injection e)
theorem TabE.us(h:TabE F n0 b fv ms mg mn mf m2 pv TB es eg en ef eq i w)(hg:w.grownBy w' (some ms))(m:MapS w' ms es'):TabE F n0 b fv ms mg mn mf m2 pv TB es' eg en ef eq i w' :=
 h.fr hg.size (hg.block b h.B.lt (Xu (h.hs.nblk h.B).symm)) (fun _ _ k=>k.keepM h.hs hg) m (h.hg.keep hg (Xu h.ds.1.1.symm)) (h.hn.keep hg (Xu h.ds.1.2.1.symm)) (h.hf.keep hg (Xu h.ds.1.2.2.1.symm)) (h.hq.keep hg (Xu h.ds.1.2.2.2.symm))
theorem TabE.ug(h:TabE F n0 b fv ms mg mn mf m2 pv TB es eg en ef eq i w)(hg:w.grownBy w' (some mg))(m:MapS w' mg eg'):TabE F n0 b fv ms mg mn mf m2 pv TB es eg' en ef eq i w' :=
 h.fr hg.size (hg.block b h.B.lt (Xu (h.hg.nblk h.B).symm)) (fun _ _ k=>k.keepM h.hg hg) (h.hs.keep hg (Xu h.ds.1.1)) m (h.hn.keep hg (Xu h.ds.2.1.1.symm)) (h.hf.keep hg (Xu h.ds.2.1.2.1.symm)) (h.hq.keep hg (Xu h.ds.2.1.2.2.symm))
theorem TabE.un(h:TabE F n0 b fv ms mg mn mf m2 pv TB es eg en ef eq i w)(hg:w.grownBy w' (some mn))(m:MapS w' mn en'):TabE F n0 b fv ms mg mn mf m2 pv TB es eg en' ef eq i w' :=
 h.fr hg.size (hg.block b h.B.lt (Xu (h.hn.nblk h.B).symm)) (fun _ _ k=>k.keepM h.hn hg) (h.hs.keep hg (Xu h.ds.1.2.1)) (h.hg.keep hg (Xu h.ds.2.1.1)) m (h.hf.keep hg (Xu h.ds.2.2.1.1.symm)) (h.hq.keep hg (Xu h.ds.2.2.1.2.symm))
theorem TabE.uf(h:TabE F n0 b fv ms mg mn mf m2 pv TB es eg en ef eq i w)(hg:w.grownBy w' (some mf))(m:MapS w' mf ef'):TabE F n0 b fv ms mg mn mf m2 pv TB es eg en ef' eq i w' :=
 h.fr hg.size (hg.block b h.B.lt (Xu (h.hf.nblk h.B).symm)) (fun _ _ k=>k.keepM h.hf hg) (h.hs.keep hg (Xu h.ds.1.2.2.1)) (h.hg.keep hg (Xu h.ds.2.1.2.1)) (h.hn.keep hg (Xu h.ds.2.2.1.1)) m (h.hq.keep hg (Xu h.ds.2.2.2.symm))
theorem TabE.uq(h:TabE F n0 b fv ms mg mn mf m2 pv TB es eg en ef eq i w)(hg:w.grownBy w' (some m2))(m:MapS w' m2 eq'):TabE F n0 b fv ms mg mn mf m2 pv TB es eg en ef eq' i w' :=
 h.fr hg.size (hg.block b h.B.lt (Xu (h.hq.nblk h.B).symm)) (fun _ _ k=>k.keepM h.hq hg) (h.hs.keep hg (Xu h.ds.1.2.2.2)) (h.hg.keep hg (Xu h.ds.2.1.2.2)) (h.hn.keep hg (Xu h.ds.2.2.1.2)) (h.hf.keep hg (Xu h.ds.2.2.2)) m
def EnT(F:Nd)(n0 b:Nat)(fv:Da)(ms mg mn mf m2:Nat)(pv:Nat→Da)(TB:List Nat)(i:Nat)(w:Aa):Prop :=
 TabE F n0 b fv ms mg mn mf m2 pv TB (numK 2 (fun _ _=>.bool true) (F.kids.take i) 0) (numK 6 (fun _ d=>tyV (ofF (Za d 0)).1) (F.kids.take i) 0) (numK 6 (fun k _=>.int .i64 k) (F.kids.take i) 0) (numK 4 (fun k d=>fnV k (pv k) (resT d)) (F.kids.take i) 0) (allK (F.kids.take i)) i w
theorem TabE.next(h:TabE F n0 b fv ms mg mn mf m2 pv TB es eg en ef eq i w)(hi:i<F.kids.length)(hk:(Za F i).kind≠4):TabE F n0 b fv ms mg mn mf m2 pv TB es eg en ef eq (i+1) w :=
 ⟨h.B,h.hs,h.hg,h.hn,h.hf,h.hq,fun j hj hk2=>h.hp j (by
 have:j≠i:=fun e=>hk (by rw [← e];exact hk2);omega) hk2,h.tb,h.ds⟩
theorem ent_2(hi:i<F.kids.length)(hk:(Za F i).kind=2)(h:TabE F n0 b fv ms mg mn mf m2 pv TB (numK 2 (fun _ _=>.bool true) (F.kids.take i) 0++[((Za F i).text,.bool true)]) (numK 6 (fun _ d=>tyV (ofF (Za d 0)).1) (F.kids.take i) 0) (numK 6 (fun k _=>.int .i64 k) (F.kids.take i) 0) (numK 4 (fun k d=>fnV k (pv k) (resT d)) (F.kids.take i) 0) (allK (F.kids.take i)++[((Za F i).text,.bool true)]) i w):EnT F n0 b fv ms mg mn mf m2 pv TB (i+1) w:=by
 unfold EnT;rw [Zlc _ hi hk,Jqa _ _ hi (by rw [hk];decide),Jqa _ _ hi (by rw [hk];decide),Jqa _ _ hi (by rw [hk];decide),Vvb hi];exact h.next hi (by rw [hk];decide)
theorem ent_6(hi:i<F.kids.length)(hk:(Za F i).kind=6)(h:TabE F n0 b fv ms mg mn mf m2 pv TB (numK 2 (fun _ _=>.bool true) (F.kids.take i) 0) (numK 6 (fun _ d=>tyV (ofF (Za d 0)).1) (F.kids.take i) 0++[((Za F i).text,tyV (ofF (Za (Za F i) 0)).1)]) (numK 6 (fun k _=>.int .i64 k) (F.kids.take i) 0++[((Za F i).text,.int .i64 (cntK 6 (F.kids.take i)))]) (numK 4 (fun k d=>fnV k (pv k) (resT d)) (F.kids.take i) 0) (allK (F.kids.take i)++[((Za F i).text,.bool true)]) i w):EnT F n0 b fv ms mg mn mf m2 pv TB (i+1) w:=by
 unfold EnT;rw [Jqa _ _ hi (by rw [hk];decide),Zlc _ hi hk,Zlc _ hi hk,Jqa _ _ hi (by rw [hk];decide),Vvb hi];exact h.next hi (by rw [hk];decide)
theorem Wbg(hi:i<F.kids.length)(hk:(Za F i).kind=4){v:Da}(h:TabE F n0 b fv ms mg mn mf m2 pv TB (numK 2 (fun _ _=>.bool true) (F.kids.take i) 0) (numK 6 (fun _ d=>tyV (ofF (Za d 0)).1) (F.kids.take i) 0) (numK 6 (fun k _=>.int .i64 k) (F.kids.take i) 0) (numK 4 (fun k d=>fnV k (pv k) (resT d)) (F.kids.take i) 0++[((Za F i).text,fnV (cntK 4 (F.kids.take i)) v (resT (Za F i)))]) (allK (F.kids.take i)++[((Za F i).text,.bool true)]) i w)
 {lo:Nat} (ho:w.ownsRow lo 24 2 v (parT (Za F i)).length ((parT (Za F i)).flatMap tyCells)) (hlo:n0≤lo):∃ pv TB,EnT F n0 b fv ms mg mn mf m2 pv TB (i+1) w:=by
 obtain ⟨qv,hqv⟩:∃ qv,qv=fun k=>if k=cntK 4 (F.kids.take i) then v else pv k:=⟨_,rfl⟩;have hq0:∀ k,k<cntK 4 (F.kids.take i)→qv k=pv k:=fun k hk=>by rw [hqv];exact if_neg O
 have hq1:qv (cntK 4 (F.kids.take i))=v:=by rw [hqv];exact if_pos rfl
 have e4:numK 4 (fun k d=>fnV k (qv k) (resT d)) (F.kids.take (i+1)) 0=numK 4 (fun k d=>fnV k (pv k) (resT d)) (F.kids.take i) 0++[((Za F i).text,fnV (cntK 4 (F.kids.take i)) v (resT (Za F i)))]:=by
  rw [Zlc _ hi hk,Qvb (f:=fun k d=>fnV k (qv k) (resT d)) (g:=fun k d=>fnV k (pv k) (resT d)) _ 0 fun j d hj=>by show fnV j (qv j) _=fnV j (pv j) _;rw [hq0 j O],hq1]
 refine ⟨qv,TB++v.ownBlock.toList,?_⟩;unfold EnT;rw [Jqa _ _ hi (by rw [hk];decide),Jqa _ _ hi (by rw [hk];decide),Jqa _ _ hi (by rw [hk];decide),e4,Vvb hi];refine ⟨h.B,h.hs,h.hg,h.hn,h.hf,h.hq,fun j hj hk2=>?_,fun j hj=>?_,h.ds⟩;by_cases hji:j=i;subst hji;rw [hq1];exact (Vhf ho).mono fun k hk=>List.mem_append_right _ hk;rw [hq0 _ (Yig O O hk2)];exact (h.hp j O hk2).mono fun k hk=>List.mem_append_left _ hk;rcases List.mem_append.1 hj with q|q;exact h.tb j q;have:=ho.lt j (Option.mem_toList.1 q);exact ⟨O,this.2⟩
theorem EnT.tab(h:EnT F n0 b fv ms mg mn mf m2 pv TB F.kids.length w):Tab F TB ms mg mn mf pv w:=by
 unfold EnT at h;rw [List.take_length] at h;refine ⟨h.hs,h.hg,h.hn,h.hf,fun s hs=>?_⟩;obtain ⟨j,hj,h1,h2,h3⟩:=Zmc 4 s F.kids 0 hs;unfold findD;rw [h2,h3,Afa,← Yj hj];exact h.hp j hj (by rw [Yj hj];exact h1)
end
end Go.Rk
