/- Merged texts. Conditions: each text's own. -/
import Derived.Test.YtmpfjifhkmdbaaaGreatDoorI06
import Derived.Test.YtmpfjifhkmdbaaaGreatDoorI01
import Derived.Test.YtmpfjifhkmdbaaaGreatDoorI02
import Derived.Test.YtmpfjifhkmdbaaaGreatDoorI03
set_option linter.unusedSimpArgs false
set_option linter.unusedVariables false
set_option maxHeartbeats 16000000
set_option maxRecDepth 100000
open Bool renaming and_eq_true_iff→Aga,and_eq_true→Ara
open Go renaming World→Aa,TypeId→Ba,PanicEntry→Da,Operand→Ea,Program→Fa,Value→Ga
open Go.Region renaming wanted→Ha
open Go.Value renaming slice→Ia
open Int renaming toNat_natCast→Bca
open List renaming all_eq_true→Aca,length_map→Aea,forall_mem_cons→Aia,getElem_mem→Aja,mem_cons→Aka,map_append→Aoa,mem_cons_self→Apa,map_cons→Aqa,mem_append_right→Asa,getElem_map→Ata,not_mem_nil→Ava,mem_cons_of_mem→Awa,getElem?_map→Axa,length_cons→Baa,length_append→Bda,length_singleton→Bea,mem_append_left→Bfa,length_erase_of_mem→Bga,getD_eq_getElem?_getD→Bha,map_congr_left→Bka,length_take→Bma,mem_singleton→Boa,mem_of_find?_eq_some→Bpa,ext_getElem→Bqa,forall_mem_nil→Bra,getElem?_take→Bsa,getElem?_eq_none→Bta,filter_append→Bua,getLast?_eq_getElem?→Bva,getElem?_eq_getElem→Bwa
open Nat renaming blt→Aaa,beq→Aba,le_refl→Afa,le_trans→Aha,eq_of_beq_eq_true→Ala,beq_refl→Ama,ble→Ana,lt_of_lt_of_le→Aua,le_of_ble_eq_true→Aya,le_succ→Aza,le_add_right→Bba,zero_le→Bia,zero_add→Bla,ble_eq_true_of_le→Bna
open Option renaming map_eq_some_iff→Ada,map_some→Bja
namespace Go.Proofs
end Go.Proofs
namespace Go.Rk
open Go.Proofs
open Go Go.RowKit
def RChk(F:Nd)(w0:Aa)(r:Ga)(w':Aa):Prop:=(∃ u,r = .tuple #[u,.int .i64 (refCheck F).2.1,.int .i64 (refCheck F).2.2]∧RetN (refCheck F).1 w0.heap.size u w')∧G w0 w'
theorem Xqd{n:Nat}{σ:List Ent}{F:Nd}{w0 w1:Aa}{b2 b3 b4:Nat}{u:Nd}{s x y:Ga}{ch:List Da}{fn:Func}{T:CSt}(hfn:fn.results = #[.cell 2 26,.cell 3 3,.cell 4 30])(hv:validB F=true)
 (h2:look σ 2=some (True,.pointer (some ⟨b2,0,none⟩))) (h3:look σ 3=some (True,.pointer (some ⟨b3,0,none⟩))) (h4:look σ 4=some (True,.pointer (some ⟨b4,0,none⟩))) (B2:Blk w1 b2 26 (ndCells u s)) (B3:Blk w1 b3 3 [x]) (B4:Blk w1 b4 30 [y])
 (hb:w0.heap.size≤b2∧w0.heap.size≤b3∧w0.heap.size≤b4) (g:G w0 w1) (hz:ch=[failE T.ea T.ee]∧T.ee≠0) (hE:Er T (refS F)) :
 ∀ a,Kn n σ a→ZD PP fn (RChk F w0) (fun _ _=>False) ch [fnD 28 #[.pointer (some ⟨b2,0,none⟩),.pointer (some ⟨b3,0,none⟩),.pointer (some ⟨b4,0,none⟩)] #[]] a w1:=by
 obtain ⟨rfl,hne⟩:=hz;obtain ⟨e1,e2⟩:=hE hne;have hr:=Qzf hv (by rw [e1];exact hne);refine Xag Joa J (Uwe B2 B3 B4) fun v w2 hv2=>?_;obtain ⟨_,C2,C3,C4,g2⟩:=hv2;refine Zrc (Yua (rs:=[.cell 2 26,.cell 3 3,.cell 4 30]) (vs:=[_,_,_]) hfn J (Zra h2 Zf J (C2.row) (Xbb h3 Yf (C3.at_ J) (Xbb h4 Yla (C4.at_ J) Ub))) J ?_);refine ⟨⟨_,by rw [hr,e1,e2],by rw [hr];exact Xp (t:=nd0) J (Yfb _ _)⟩,?_⟩;exact ⟨g2.os.trans g.os,g2.tape.trans g.tape,g2.output.trans g.output,Aha g.size g2.size,fun k hk=>(g2.block k (Aua hk g.size) (by intro hm;simp only [Aka,Ava,or_false] at hm;omega)).trans (g.block hk)⟩
theorem Xse{n:Nat}{σ:List Ent}{F:Nd}{w0 w1:Aa}{b2 b3 b4:Nat}{u:Nd}{s x y:Ga}{ch:List Da}{fn:Func}{T:CSt}(hfn:fn.results = #[.cell 2 26,.cell 3 3,.cell 4 30])(hv:validB F=true)
 (h2:look σ 2=some (True,.pointer (some ⟨b2,0,none⟩))) (h3:look σ 3=some (True,.pointer (some ⟨b3,0,none⟩))) (h4:look σ 4=some (True,.pointer (some ⟨b4,0,none⟩))) (B2:Blk w1 b2 26 (ndCells u s)) (B3:Blk w1 b3 3 [x]) (B4:Blk w1 b4 30 [y])
 (hb:w0.heap.size≤b2∧w0.heap.size≤b3∧w0.heap.size≤b4) (g:G w0 w1) (hz:ch=[failE T.ea T.ee]∧T.ee≠0) (hE:Er T (refS F)) :
 ∀ a,Kn n σ a→∀ a',Agr n [2,3,4] a a'→ZD PP fn (RChk F w0) (fun _ _=>False) ch [fnD 28 #[.pointer (some ⟨b2,0,none⟩),.pointer (some ⟨b3,0,none⟩),.pointer (some ⟨b4,0,none⟩)] #[]] a' w1:=fun a ha a' hA =>
 Xqd (σ:=[(2,True,.pointer (some ⟨b2,0,none⟩)),(3,True,.pointer (some ⟨b3,0,none⟩)),(4,True,.pointer (some ⟨b4,0,none⟩))]) hfn hv rfl rfl rfl B2 B3 B4 hb g hz hE a' (hA.kn ha (fun t c v hl=>by
 unfold look at hl;cases e2:Aba 2 t;rw [e2,Wtg] at hl;unfold look at hl;cases e3:Aba 3 t;rw [e3,Wtg] at hl;unfold look at hl;cases e4:Aba 4 t;rw [e4,Wtg] at hl;cases hl;rw [e4,Wug] at hl;rw [← Ala e4];exact h4.trans hl;rw [e3,Wug] at hl;rw [← Ala e3];exact h3.trans hl;rw [e2,Wug] at hl;rw [← Ala e2];exact h2.trans hl) fun t c v hl=>by
 unfold look at hl;cases e2:Aba 2 t;rw [e2,Wtg] at hl;unfold look at hl;cases e3:Aba 3 t;rw [e3,Wtg] at hl;unfold look at hl;cases e4:Aba 4 t;rw [e4,Wtg] at hl;cases hl;rw [← Ala e4];decide;rw [← Ala e3];decide;rw [← Ala e2];decide)
theorem Ugd{M:Nat→Nat→Bool}{n0:Nat}{w w':Aa}(g:GT M n0 w w')(h:n0=w.heap.size):G w w':=⟨g.os,g.tape,g.output,g.size,fun k hk=>g.block k hk (.inl O)⟩
theorem gg_t{M:Nat→Nat→Bool}{n0:Nat}{w0 w w':Aa}(h:G w0 w)(g:GT M n0 w w')(hn:n0=w0.heap.size):G w0 w':=⟨g.os.trans h.os,g.tape.trans h.tape,g.output.trans h.output,Aha h.size g.size,fun k hk=>(g.block k (Aua hk h.size) (.inl O)).trans (h.block hk)⟩
theorem Zbg{w0 w w':Aa}{ms mg mn mf:Nat}(h:G w0 w)(g:GV (EnV ms mg mn mf) w w')(hm:w0.heap.size≤ms∧w0.heap.size≤mg∧w0.heap.size≤mn∧w0.heap.size≤mf):G w0 w' :=
 ⟨g.os.trans h.os,g.tape.trans h.tape,g.output.trans h.output,Aha h.size (GV.size g),fun k hk=>(g.block k (Aua hk h.size) (by unfold EnV;omega)).trans (h.block hk)⟩
theorem Blk.gx{w w':Aa}{X:List Nat}{n0 b:Nat}{e:Ba}{l:List Ga}(h:Blk w b e l)(g:GT (mutC X) n0 w w')(hb:b∈X):Blk w' b e l:=(g.block b h.lt (.inr fun ⟨cs,f,fr,_,hm⟩=>by
 unfold mutC at hm;rw [Wng hb] at hm;simp at hm)).trans h
theorem Uhd{F t:Nd}(Z:List Nat)(HF:FW F)(hk:t.kind=2∨t.kind=6∨t.kind=4)(hp:permF t=true)(hct:count t≤1000000){n0 b m0:Nat}{TB X:List Nat}{S:CSt}{w:Aa}{v:Ga}(h:PX F n0 b TB X w)(he:S.ee=0)(hkw:Kd w (fun k=>k<n0) t.kids v)(hZ:∀ j∈Z,j<w.heap.size)(hm:m0≤w.heap.size) :
 RetP PP 31 #[.pointer (some ⟨b,0,none⟩),ndV t v] w (fun r w'=>(∃ p c,r=ndV (dclR F t S).1 (.slice p (dclR F t S).1.kids.length c)∧m0≤w.heap.size∧KdX w.heap.size Z w' (dclR F t S).1.kids (.slice p (dclR F t S).1.kids.length c))∧(dclR F t S).2.ee=0∧PX F n0 b TB X w'∧GT (mutC X) n0 w w') (BadD n0 X (dclR F t S).2 w) :=
 (Xuf HF hk hp hct h he hkw).mono (fun r w' hr=>by
 obtain ⟨h0,⟨p,c,e,k⟩,h1,h2⟩:=hr;exact ⟨⟨p,c,e,hm,KdN.x k hZ⟩,h0,h1,h2⟩) fun _ _ h=>h
theorem Uid{X:List Nat}{m0:Nat}{w w':Aa}{ks:List Nd}{v s:Ga}(hO:∀ k,s.ownBlock=some k→k<w.heap.size)(k:KdX w.heap.size X w' ks v)(hm:m0≤w.heap.size):∃ lo,(∀ k,s.ownBlock=some k→k<lo)∧m0≤lo∧KdX lo X w' ks v:=⟨_,hO,hm,k⟩
theorem PB.keepc{F:Nd}{n0 b:Nat}{TB X:List Nat}{fv:Ga}{ms mg mn mf:Nat}{pv:Nat→Ga}{sv cv rv:Ga}{w w':Aa}(h:PB F n0 b TB X fv ms mg mn mf pv sv cv rv w){j:Nat}{e:Ba}{cs0:Array Ga}{fr0:Nat×Nat}(hg:w.grownBy w' (some j))(hB:w.heap[j]? = some (.cells cs0 e fr0))(hj:n0≤j)(he:typC e=false∨(j∈X∧j∉TB)):PB F n0 b TB X fv ms mg mn mf pv sv cv rv w':=by
 have hne:j≠b:=fun q=>by
  subst q;rcases he with he|he;have:=h.B;unfold Blk at this;rw [this] at hB;injection hB with hB;injection hB with _ hB;subst hB;exact Bool.noConfusion (show true=false from he);exact h.bx he.1
 have hk:∀ k,k<w.heap.size→k≠j→w'.heap[k]? = w.heap[k]?:=fun k hk hn=>hg.block k hk fun e=>hn (by injection e)
 have m:∀ {k es},MapS w k es→MapS w' k es:=fun hm=>hm.keep hg fun q=>by
  injection q with q;subst q;obtain ⟨ms,c,hb,_⟩:=hm;rw [hb] at hB;injection hB with hB;cases hB
 have hL:Below n0 w w':=⟨hg.os,hg.tape,hg.output,hg.size,fun k hk=>hg.block k (Aua hk h.L.hn) fun e=>by injection e with e;omega⟩;refine ⟨h.B.keep hg fun e=>hne (by injection e with e;exact e.symm),h.hb,h.kF.keep hg fun k hk _ e=>by injection e with e;omega,h.hF,⟨m h.T.hs,m h.T.hg,m h.T.hn,m h.T.hf,fun s hs=>(h.T.hp s hs).same fun k hkT hlt ⟨cs,fr,hc⟩=>hg.block k hlt fun e=>?_⟩,h.L.below hL,h.tx,fun i hi=>Aua (h.xl i hi) hg.size,h.bx⟩;injection e with e;subst e;rcases he with he|he;rw [hc] at hB;injection hB with hB;injection hB with _ hB;subst hB;exact Bool.noConfusion (show true=false from he);exact he.2 hkT
theorem PX.keepc{F:Nd}{n0 b:Nat}{TB X:List Nat}{w w':Aa}(h:PX F n0 b TB X w){j:Nat}{e:Ba}{cs0:Array Ga}{fr0:Nat×Nat}(hg:w.grownBy w' (some j))(hB:w.heap[j]? = some (.cells cs0 e fr0))(hj:n0≤j)(he:typC e=false∨(j∈X∧j∉TB)):PX F n0 b TB X w':=by obtain ⟨_,_,_,_,_,_,_,_,_,h⟩:=h;exact (h.keepc hg hB hj he).px
theorem PX.keepO{F:Nd}{n0 b lo:Nat}{TB X Y:List Nat}{w w':Aa}{ks:List Nd}{s:Ga}(h:PX F n0 b TB X w)(hg:w.grownBy w' s.ownBlock)(hO:OwnN Y lo w ks s)(hl:n0≤lo):PX F n0 b TB X w':=by
 cases hs:s.ownBlock with
 | none=>rw [hs] at hg;exact h.grow ⟨hg.os,hg.tape,hg.output,hg.size,fun k hk=>hg.block k hk (fun e=>nomatch e)⟩
 | some k =>
  rw [hs] at hg;obtain ⟨cs,fr,hc⟩:=hO.nd k hs;exact h.keepc hg hc (Aha hl (hO.ge k hs)) (.inl rfl)
theorem Blk.gm{w w':Aa}{b:Nat}{e:Ba}{l:List Ga}{ms mg mn mf:Nat}{e1 e2 e3 e4:List (List UInt8×Ga)}(h:Blk w b e l)(g:GV (EnV ms mg mn mf) w w')(s1:MapS w ms e1)(s2:MapS w mg e2)(s3:MapS w mn e3)(s4:MapS w mf e4):Blk w' b e l :=
 Blk.gb h g fun hv=>by
 rcases hv with q|q|q|q;exact s1.nblk h q.symm;exact s2.nblk h q.symm;exact s3.nblk h q.symm;exact s4.nblk h q.symm
theorem er_m5{F:Nd}{S:CSt}(he:S.ee=0)(h:fncB F [109,97,105,110]=false):Er { S with ea:=0,ee:=5 } (mainS F S):=by
 unfold mainS;unfold fncB at h;rw [Wng (by have:=Wsg h;omega),Wug];rw [show failS 0 5 S = { S with ea:=0,ee:=5 } from Wda he 0 5];exact Er.refl _
theorem er_r5{F:Nd}(hd:∀ j,j<F.kids.length→dupAt F j=false)(he:(dclA F rs0 F.kids.length).2.ee=0)(h:fncB F [109,97,105,110]=false):Er { (dclA F rs0 F.kids.length).2 with ea:=0,ee:=5 } (refS F):=by
 rw [(Jxb hd).1];exact er_m5 he h
theorem Waf{F:Nd}(HR:FRes F)(h:fncB F [109,97,105,110]=true)(S:CSt):mainS F S=bif (decide (0<((parT (findD F 4 [109,97,105,110]).1).length:Int)) || !tyEqB (resT (findD F 4 [109,97,105,110]).1) ty0) then failS (findD F 4 [109,97,105,110]).1.pos 7 S else S:=by
 unfold fncB at h;unfold mainS;rw [Wmg (by have:=Wrg h;omega),Wtg,HR _ (Wrg h),Zlb]
theorem Xte{F:Nd}{TB:List Nat}{ms mg mn mf:Nat}{pv:Nat→Ga}{w:Aa}{s:List UInt8}{p:Option Addr}{m c:Nat}(T:Tab F TB ms mg mn mf pv w)(h:fncB F s=true)(hp:pv (findD F 4 s).2.toNat = .slice p m c):m=(parT (findD F 4 s).1).length:=by
 obtain ⟨p',c',e,_⟩:=T.hp s (Wrg h);rw [hp] at e;injection e
theorem Jaf{F:Nd}(hd:∀ j,j<F.kids.length→dupAt F j=false){s:List UInt8}(h:fncB F s=true){i:Nat}(hi:i<F.kids.length)(ht:(Zb F i).text=s):(findD F 4 s).1=Zb F i:=by
 obtain ⟨j,hj,k4,e4,e⟩:=Uqa (show 0≤(findD F 4 s).2 from Wrg h);rcases Nat.lt_trichotomy i j with q|q|q;have:=Xod q hj (ht.trans e4.symm);rw [hd j hj] at this;cases this;subst q;exact e;have:=Xod q hi (e4.trans ht.symm);rw [hd i hi] at this;cases this
theorem er_r7{F:Nd}(hd:∀ j,j<F.kids.length→dupAt F j=false)(he:(dclA F rs0 F.kids.length).2.ee=0)(HR:FRes F)(h:fncB F [109,97,105,110]=true)(h3:(decide (0<((parT (findD F 4 [109,97,105,110]).1).length:Int)) || !tyEqB (resT (findD F 4 [109,97,105,110]).1) ty0)=true){i:Nat}(hi:i<F.kids.length)(ht:(Zb F i).kind=4∧(Zb F i).text=[109,97,105,110]):Er { (dclA F rs0 F.kids.length).2 with ea:=(Zb F i).pos,ee:=7 } (refS F):=by
 rw [(Jxb hd).1,Waf HR h,h3,Wug,Jaf hd h hi ht.2];rw [show failS (Zb F i).pos 7 (dclA F rs0 F.kids.length).2 = { (dclA F rs0 F.kids.length).2 with ea:=(Zb F i).pos,ee:=7 } from Wda he _ _];exact Er.refl _
theorem Xbg{F:Nd}{i:Nat}(h:(!decide ((Zb F i).kind=4) || !decide ((Zb F i).text=[109,97,105,110]))=false):(Zb F i).kind=4∧(Zb F i).text=[109,97,105,110]:=by
 simpa using h
theorem Xcg{F:Nd}{i:Nat}(h:∀ j,j<i→¬ ((Zb F j).kind=4∧(Zb F j).text=[109,97,105,110]))(k:(!decide ((Zb F i).kind=4) || !decide ((Zb F i).text=[109,97,105,110]))=true):∀ j,j<i+1→¬ ((Zb F j).kind=4∧(Zb F j).text=[109,97,105,110]):=fun j hj q=>by
 by_cases e:j=i;subst e;rw [Wng q.1,Wng q.2] at k;cases k;exact h j O q
theorem Zpe(F:Nd)(v:Ga)(D:Nat→Prop)(w:Aa)(hkD:Kd w D F.kids v)(hcn:count F≤1000000)(hL0:LaidW w.heap.size w):RetP PP 13 #[ndV F v] w (RChk F w) fun _ _=>False:=by
 obtain ⟨n0,hn0⟩:∃ n,n=w.heap.size:=⟨_,rfl⟩;have hkw:Kd w (fun k=>k<n0) F.kids v:=Kd.mono hkD fun k _ hlt=>by rw [hn0];exact hlt
 have hk0:=hkw;have hL:LaidW n0 w:=by rw [hn0];exact hL0
 have hLw:=hL;obtain ⟨p,c,rfl,_⟩:=id hkw;have hln:=Wn F;have g:=GT.refl (mutC []) n0 w;refine Xqb (m:=86) Tryz.func13 J J [(0,True,_)] (Za J (Zr _)) ?_;refine Wg fun K1 hK1=>?_;refine Wc [1,1,1,1] ?_;refine Zda J (Zd J) J ?_;intro b1 w1 N1;have l1:=We N1 g.size;have g:=gtg g N1.g;have hL:=hL.grow (N1.g);have hk0:=hk0.grow (N1.g);have B1:=N1.blk;refine Xc J Zs J ?_;intro b2 w2 N2;have x2_1:=N2.ne B1;have l2:=We N2 g.size;have g:=gtg g N2.g;replace B1:=B1.grow (N2.g);have hL:=hL.grow (N2.g);have hk0:=hk0.grow (N2.g);have B2:=N2.blk;refine Xc J Zjc J ?_;intro b3 w3 N3;have x3_1:=N3.ne B1;have x3_2:=N3.ne B2;have l3:=We N3 g.size;have g:=gtg g N3.g;replace B1:=B1.grow (N3.g);replace B2:=B2.grow (N3.g);have hL:=hL.grow (N3.g);have hk0:=hk0.grow (N3.g);have B3:=N3.blk;refine Xc J Qtb J ?_;intro b4 w4 N4;have x4_1:=N4.ne B1;have x4_2:=N4.ne B2;have x4_3:=N4.ne B3;have l4:=We N4 g.size;have g:=gtg g N4.g;replace B1:=B1.grow (N4.g);replace B2:=B2.grow (N4.g);replace B3:=B3.grow (N4.g);have hL:=hL.grow (N4.g);have hk0:=hk0.grow (N4.g);have B4:=N4.blk;refine Wx [(1,_,_),(2,_,_),(3,_,_),(4,_,_)] (Za J (Za J (Za J (Za J (Zr _))))) ?_;refine Ze (hK1 _ _ _ ?_);refine Wg fun K2 hK2=>?_;refine Wg fun K3 hK3=>?_;refine Wc [0,1,3] ?_;refine Uz J (Zo Zf (Zd J) J (fun _=>B1.row)) ?_;refine Xm J (Zu Xhc Xy (Ya (Zd J) (Yl)) J) (Vve F _ _ _ hL.hL hL.hb hk0 hcn) ?_;rintro v13 w13 ⟨rfl,g13⟩;refine ⟨fun _=>g13,?_⟩;have g:=gtg g g13;replace B1:=B1.grow (g13);replace B2:=B2.grow (g13);replace B3:=B3.grow (g13);replace B4:=B4.grow (g13);have hL:=hL.grow (g13);have hk0:=hk0.grow (g13);refine Zz J (fun _=>Yvb (Zd J)) ?_
 refine Wx [(1,_,_),(2,_,_),(3,_,_),(4,_,_),(14,_,_)] (Za J (Za J (Za J (Za J (Za J (Zr _)))))) ?_;refine Ze (hK3 _ _ _ ?_);refine Xpb (Zd J) (fun h1=>?_) (fun h1=>?_)
 ·have hv:validB F=false:=by simpa using h1
  refine Wg fun K4 hK4=>?_;refine Wc [3,2,2,2] ?_;refine Vfb Zs Zta pq0 J J ?_;refine Xq J Yj (Zd J) (Zd J) J J B2 J J ?_;intro wS1 hgS1 hzS1;clear B2;intro B2;replace B1:=B1.keep hgS1 (by intro h;injection h with h;first|exact x2_1 h.symm|exact x1_2 h|omega);replace B3:=B3.keep hgS1 (by intro h;injection h with h;first|exact x2_3 h.symm|exact x3_2 h|omega);replace B4:=B4.keep hgS1 (by intro h;injection h with h;first|exact x2_4 h.symm|exact x4_2 h|omega);have g:=Yd g hgS1 O;refine Xq J Wta (Zd J) Xa J J B3 J J ?_;intro wS2 hgS2 hzS2;clear B3;intro B3;replace B1:=B1.keep hgS2 (by intro h;injection h with h;first|exact x3_1 h.symm|exact x1_3 h|omega);replace B2:=B2.keep hgS2 (by intro h;injection h with h;first|exact x3_2 h.symm|exact x2_3 h|omega);replace B4:=B4.keep hgS2 (by intro h;injection h with h;first|exact x3_4 h.symm|exact x4_3 h|omega);have g:=Yd g hgS2 O;refine Xq J Vva (Zd J) Xa J J B4 J J ?_;intro wS3 hgS3 hzS3;clear B4;intro B4;replace B1:=B1.keep hgS3 (by intro h;injection h with h;first|exact x4_1 h.symm|exact x1_4 h|omega);replace B2:=B2.keep hgS3 (by intro h;injection h with h;first|exact x4_2 h.symm|exact x2_4 h|omega);replace B3:=B3.keep hgS3 (by intro h;injection h with h;first|exact x4_3 h.symm|exact x3_4 h|omega);have g:=Yd g hgS3 O;refine Wx [(1,_,_),(2,_,_),(3,_,_),(4,_,_)] (Za J (Za J (Za J (Za J (Zr _))))) ?_;refine Ze (hK4 _ _ _ ?_);refine Jfb (?_);skip
  refine Zrc (Yua (rs:=[.cell 2 26,.cell 3 3,.cell 4 30]) (vs:=[_,_,_]) J J (Zra J Zf J (by first|exact B1.row|exact B2.row|exact B3.row|exact B4.row) (Xbb J Yf (by first|exact B1.at_ J|exact B2.at_ J|exact B3.at_ J|exact B4.at_ J) (Xbb J Yla (by first|exact B1.at_ J|exact B2.at_ J|exact B3.at_ J|exact B4.at_ J) (Ub)))) J ?_);exact ⟨⟨_,by rw [Xre hv],by rw [Xre hv];exact Xp (t:=nd0) rfl (Yfb _ _)⟩,Ugd g hn0⟩
 have hv:validB F=true:=by simpa using h1
 refine Jeb (hK2 _ _ _ ?_);refine Uia [(1,_,_),(2,_,_),(3,_,_),(4,_,_)] (Za J (Za J (Za J (Za J (Zr _))))) ?_;refine Wg fun K5 hK5=>?_;refine Qha (k:=1) [3,2] J J J ?_;refine Zz J (fun _=>Qmb (Yl) (Ya (Zd J) (Ya (Zd J) (Ya (Zd J) (Yl))))) ?_;refine Ze (Ycd (Wvc (Zd J) (Yl)) (hK5 _ _ _ ?_));refine Uia [(1,_,_),(2,_,_),(3,_,_),(4,_,_)] (Za J (Za J (Za J (Za J (Zr _))))) ?_;refine Wg fun K6 hK6=>?_;refine Wc [0,1,1,1,1,3,1,3] ?_;refine Uz J (Zo Zf (Zd J) J (fun _=>B1.row)) ?_;refine Una J ?_;intro m18 w18 em18 g18 z18 s18;have lm18:w.heap.size≤m18:=by have:=g.size;omega
 have g:=g.trans (GT.of_g g18);have B1:=B1.grow g18;have B2:=B2.grow g18;have B3:=B3.grow g18;have B4:=B4.grow g18;have hL:=hL.grow g18;have hk0:=hk0.grow g18;refine Una J ?_;intro m19 w19 em19 g19 z19 s19;have lm19:w.heap.size≤m19:=by have:=g.size;omega
 have g:=g.trans (GT.of_g g19);have B1:=B1.grow g19;have B2:=B2.grow g19;have B3:=B3.grow g19;have B4:=B4.grow g19;have hL:=hL.grow g19;have hk0:=hk0.grow g19;have s18:=s18.grow g19;refine Una J ?_;intro m20 w20 em20 g20 z20 s20;have lm20:w.heap.size≤m20:=by have:=g.size;omega
 have g:=g.trans (GT.of_g g20);have B1:=B1.grow g20;have B2:=B2.grow g20;have B3:=B3.grow g20;have B4:=B4.grow g20;have hL:=hL.grow g20;have hk0:=hk0.grow g20;have s18:=s18.grow g20;have s19:=s19.grow g20;refine Una J ?_;intro m21 w21 em21 g21 z21 s21;have lm21:w.heap.size≤m21:=by have:=g.size;omega
 have g:=g.trans (GT.of_g g21);have B1:=B1.grow g21;have B2:=B2.grow g21;have B3:=B3.grow g21;have B4:=B4.grow g21;have hL:=hL.grow g21;have hk0:=hk0.grow g21;have s18:=s18.grow g21;have s19:=s19.grow g21;have s20:=s20.grow g21;refine Vfb Jva Jwa (pqc J (pqc J (pqc J (pqc J (pqc J pq0))))) J J ?_;refine Zda J (Zd J) J ?_;intro b23 w23 N23;have x23_1:=N23.ne B1;have x23_2:=N23.ne B2;have x23_3:=N23.ne B3;have x23_4:=N23.ne B4;have l23:=We N23 g.size;have g:=gtg g N23.g;replace B1:=B1.grow (N23.g);replace B2:=B2.grow (N23.g);replace B3:=B3.grow (N23.g);replace B4:=B4.grow (N23.g);have hL:=hL.grow (N23.g);have hk0:=hk0.grow (N23.g);have s18:=s18.grow (N23.g);have s19:=s19.grow (N23.g);have s20:=s20.grow (N23.g);have s21:=s21.grow (N23.g);have B23:=N23.blk;skip;refine Zz J (fun _=>Jc (Zd J)) ?_;refine Wx [(1,_,_),(2,_,_),(3,_,_),(4,_,_),(5,_,_)] (Za J (Za J (Za J (Za J (Za J (Zr _)))))) ?_;refine Ze (hK6 _ _ _ ?_);refine Wg fun K7 hK7=>?_;refine Wc [3,2] ?_;refine Zz J (fun _=>Zw (Zd J)) ?_;refine Zva J (Zu Zqb Xy (Ya (Zd J) (Yl)) J) (Use hv hcn O B23 hk0 hL s18 s19 s20 s21 ⟨⟨O,O,O⟩,⟨O,O⟩,O⟩ ⟨O,O,O,O⟩) ((fun ch w' hz=>Xqd (u:=nd0) (s:=.slice none 0 0) J hv J J J (B2.gm hz.2.2 s18 s19 s20 s21) (B3.gm hz.2.2 s18 s19 s20 s21) (B4.gm hz.2.2 s18 s19 s20 s21) ⟨O,O,O⟩ (Zbg (Ugd g hn0) hz.2.2 ⟨O,O,O,O⟩) ⟨hz.1,hz.2.1⟩ (Qyf F))) ?_;rintro v25 w25 ⟨rfl,hdu,⟨m2,pv,TB,hE⟩,g25⟩;refine ⟨fun hc=>absurd hc Od,?_⟩;have hg0:G w w25:=Zbg (Ugd g hn0) g25 ⟨O,O,O,O⟩;have B1:=B1.gm g25 s18 s19 s20 s21
 have B2:=B2.gm g25 s18 s19 s20 s21;have B3:=B3.gm g25 s18 s19 s20 s21;have B4:=B4.gm g25 s18 s19 s20 s21;have hL:=hLw.grow hg0;have hk25:=hkw.grow hg0;have hk0:=hk25;have hlt3:=B3.lt
 have h:PX F n0 b23 TB (b3::TB) w25:=⟨_,_,_,_,_,pv,_,_,_,hE.B,O,hk0,hcn,hE.tab,hL,fun j hj=>Awa _ hj,fun j hj=>(by
  rcases Aka.1 hj with q|q
  · omega
  · exact (hE.tb j q).2),fun hm=>(by
  rcases Aka.1 hm with q|q
  · omega
  · have:=(hE.tb b23 q).1;have:=B23.lt;omega)⟩
 have HF:=fw_of hv hdu;have hTB:∀ j∈TB,b23<j∧j<w25.heap.size:=fun j hj=>⟨by have:=(hE.tb j hj).1;have:=B23.lt;omega,(hE.tb j hj).2⟩;obtain ⟨h1F,hpF⟩:=Wib hv;have hdc:=Yqc h1F hpF;have g:GT (mutC (b3::TB)) n0 w w25:=GT.of_g hg0;refine Wx [(1,_,_),(2,_,_),(3,_,_),(4,_,_),(5,_,_)] (Za J (Za J (Za J (Za J (Za J (Zr _)))))) ?_;refine Ze (hK7 _ _ _ ?_);refine Wg fun K8 hK8=>?_;refine Wc [0,1,2] ?_;refine Uz J (Zo Zf (Zd J) J (fun _=>B1.row)) ?_;refine Xm J (Zu Jia Xy (Ya (Zd J) (Yl)) J) (Jn F _ _ _) ?_;rintro v27 w27 ⟨rfl,g27⟩;refine ⟨fun _=>g27,?_⟩;have g:=gtg g g27;replace B1:=B1.grow (g27);replace B2:=B2.grow (g27);replace B3:=B3.grow (g27);replace B4:=B4.grow (g27);have hk0:=hk0.grow (g27);have h:=h.grow (g27);refine Xq J Yj (Zd J) (Zd J) J J B2 J J ?_;intro wS4 hgS4 hzS4;have C2:=B2;clear B2;intro B2;replace B1:=B1.keep hgS4 (by intro h;injection h with h;first|exact x2_1 h.symm|exact x1_2 h|omega);replace B3:=B3.keep hgS4 (by intro h;injection h with h;first|exact x2_3 h.symm|exact x3_2 h|omega);replace B4:=B4.keep hgS4 (by intro h;injection h with h;first|exact x2_4 h.symm|exact x4_2 h|omega);have g:=Yd g hgS4 O;have h:=h.keep hgS4 C2 O (by first|exact .inl rfl|exact .inr ⟨by simp,fun hm=>by have:=hTB _ hm;omega⟩);have hk0:=hk0.keep hgS4 (fun k hk _ e=>by injection e with e;omega);refine Wx [(1,_,_),(2,_,_),(3,_,_),(4,_,_),(5,_,_)] (Za J (Za J (Za J (Za J (Za J (Zr _)))))) ?_;refine Ze (hK8 _ _ _ ?_);refine Wg fun K9 hK9=>?_;refine Wg fun K10 hK10=>?_;refine Wc [3,0,3,3] ?_;refine Zz J (fun _=>Zi Zh (Zd J)) ?_;refine Uz J (Zq Zg (Zd J) (fun _=>B1.at_ J)) ?_;refine Yha Zc J ?_
 refine Zz J (fun _=>Zw Xa) ?_;refine Wx [(1,_,_),(2,_,_),(3,_,_),(4,_,_),(5,_,_),(29,_,_),(30,_,_),(31,_,_)] (Za J (Za J (Za J (Za J (Za J (Za J (Za J (Za J (Zr _))))))))) ?_;refine Ze (hK10 _ _ _ ?_);refine Wsb ?_;refine Jvc (fun (i:Nat) u1=>(i≤F.kids.length∧(dclA F rs0 i).2.ee=0∧PX F n0 b23 TB (b3::TB) u1∧∃ s,Blk u1 b2 26 (ndCells (clnT F) s)∧OwnN [b1,b2,b3,b4] w.heap.size u1 (dclA F rs0 i).1 s)∧GT (mutC (b3::TB)) n0 w u1) _ [(1,True,_),(2,True,_),(3,True,_),(4,True,_),(5,True,_),(29,True,_),(30,True,_)] (fun (i:Nat)=>[(31,True,.int .i64 i)]) (fun (i:Nat)=>F.kids.length-i) (0) ⟨⟨Bia _,rfl,h,_,B2,Ypa _ _ _⟩,g⟩ (Yb (blkE B1) (Yb (blkE B3) (Yb (blkE B4) (Wd _)))) (Za J (Za J (Za J (Za J (Za J (Za J (Za J (Za J (Zr _))))))))) ?_;clear B1 B2 B3 B4;rintro i u1 ⟨hI1,gl1⟩ ⟨B1,B3,B4,_⟩;replace B1:Blk _ _ _ _:=B1;replace B3:Blk _ _ _ _:=B3;replace B4:Blk _ _ _ _:=B4;have g:=gl1;obtain ⟨hi,hei,h,s,B2,hO⟩:=hI1;obtain ⟨sa,sc,rfl⟩:=hO.slice;have hk0:=hkw.gt gl1 (fun k h=>h);have hlen:=Jxc F rs0 i;refine Wg fun K11 hK11=>?_;refine Wc [3] ?_;refine Zz J (fun _=>Qkc (Zd J) (Zd J)) ?_;refine Ze (hK11 _ _ _ ?_);refine Uia [(1,_,_),(2,_,_),(3,_,_),(4,_,_),(5,_,_),(29,_,_),(30,_,_),(31,_,_),(32,_,_)] (Za J (Za J (Za J (Za J (Za J (Za J (Za J (Za J (Za J (Zr _)))))))))) ?_;refine Wg fun K12 hK12=>?_;refine Xpb (Zd J) (fun h2=>?_) (fun h2=>?_)
 ·replace h2:i<F.kids.length:=by simp only [Wpg] at h2;omega
  obtain ⟨e0,p1,c1,hcell,hkid⟩:=Yq hk0 (i:=i) h2;obtain ⟨hdk,hdp⟩:=hdc _ (Jaa h2);have hcd:=Wk h2;refine Jeb (hK12 _ _ _ ?_);refine Uia [(1,_,_),(2,_,_),(3,_,_),(4,_,_),(5,_,_),(29,_,_),(30,_,_),(31,_,_)] (Za J (Za J (Za J (Za J (Za J (Za J (Za J (Za J (Zr _))))))))) ?_;refine Wg fun K13 hK13=>?_;refine Wsb ?_;refine Wg fun K14 hK14=>?_;refine Wc [3,0,1,2] ?_;refine Zma Zc J J O e0 ?_;refine Uz J (Zo Zf (Zd J) J (fun _=>hcell)) ?_;refine Xc J Zs J ?_;intro b7 w7 N7;have x7_1:=N7.ne B1;have x7_2:=N7.ne B2;have x7_3:=N7.ne B3;have x7_4:=N7.ne B4;have l7:=We N7 g.size;have hO:=hO.new N7;have g:=gtg g N7.g;replace B1:=B1.grow (N7.g);replace B2:=B2.grow (N7.g);replace B3:=B3.grow (N7.g);replace B4:=B4.grow (N7.g);have h:=h.grow (N7.g);have hkid:=hkid.grow (N7.g);have B7:=N7.blk;refine Xq J Yj (Zd J) (Zd J) J J B7 J J ?_;intro wS5 hgS5 hzS5;have C7:=B7;clear B7;intro B7;replace B1:=B1.keep hgS5 (by intro h;injection h with h;first|exact x7_1 h.symm|exact x1_7 h|omega);replace B2:=B2.keep hgS5 (by intro h;injection h with h;first|exact x7_2 h.symm|exact x2_7 h|omega);replace B3:=B3.keep hgS5 (by intro h;injection h with h;first|exact x7_3 h.symm|exact x3_7 h|omega);replace B4:=B4.keep hgS5 (by intro h;injection h with h;first|exact x7_4 h.symm|exact x4_7 h|omega);have g:=Yd g hgS5 O;have h:=h.keep hgS5 C7 O (by first|exact .inl rfl|exact .inr ⟨by simp,fun hm=>by have:=hTB _ hm;omega⟩);have hkid:=hkid.keep hgS5 (fun k hk _ e=>by injection e with e;omega);have hO:=hO.keep hgS5 Os
  refine Wx [(1,_,_),(2,_,_),(3,_,_),(4,_,_),(5,_,_),(7,_,_),(29,_,_),(30,_,_),(31,_,_)] (Za J (Za J (Za J (Za J (Za J (Za J (Za J (Za J (Za J (Zr _)))))))))) ?_;refine Ze (hK14 _ _ _ ?_);refine Zme [2,3,4] (gtC (b3::TB) n0) [3,0,3,0,1,3,1,2,3,2,3,2] [0,1,0,0,12,3,0,127,255,511,255,1279] mix KR [0,1,2,3,4,5,6,7,8,9,10,11] J J ?_;have g:=gtd g;replace B1:=B1.grow (G.drew _);replace B2:=B2.grow (G.drew _);replace B3:=B3.grow (G.drew _);replace B4:=B4.grow (G.drew _);replace B7:=B7.grow (G.drew _);have s18:=s18.grow (G.drew _);have s19:=s19.grow (G.drew _);have s20:=s20.grow (G.drew _);have s21:=s21.grow (G.drew _);have h:=h.grow (G.drew _);have hkid:=hkid.grow (G.drew _);have hO:=hO.grow (G.drew _);refine Vla (L':=[1,2,3,4,5,6,7,8,9,10,11]) 0 J J J (fun _=>Zi Zh (Zd J)) ?_;refine Qnb (L':=[2,3,4,5,6,7,8,9,10,11]) 1 J J J (fun w1 hx=>Zq Zg (Zd J) (fun _=>(B2.gt hx J).at_ J)) ?_;refine Vla (L':=[3,4,5,6,7,8,9,10,11]) 2 J J J (fun _=>Zw (Zd J)) ?_;refine Qnb (L':=[4,5,6,7,8,9,10,11]) 3 J J J (fun w1 hx=>Zo Zf (Zd J) J (fun _=>(B7.gt hx J).row)) ?_;refine Vla (L':=[4,6,7,8,9,10,11]) 5 J J J (fun _=>Ysa Zc (Zd J)) ?_;refine Zpb 4 6 J J ?_ ?_
  ·refine Zn (L':=[6,7,8,9,10,11]) [3,0,3,0,2,3,1,2,3,2,3,2] rfl rfl rfl ?_
   have hOlt:=hO.lt;refine Zva J (Zu Jx Xy (Ya (Zd J) (Ya (Zd J) (Yl))) J) (Uhd [b1,b2,b3,b4,b7] HF hdk hdp O h hei hkid (Aia.2 ⟨B1.lt,Aia.2 ⟨B2.lt,Aia.2 ⟨B3.lt,Aia.2 ⟨B4.lt,Aia.2 ⟨B7.lt,Bra _⟩⟩⟩⟩⟩) g.size) ((fun ch w' hz=>Xse J hv J J J (B2.gt hz.2.2 J) (B3.gx hz.2.2 Os) (B4.gt hz.2.2 J) ⟨O,O,O⟩ (gg_t (Ugd g hn0) hz.2.2 hn0) ⟨hz.1,hz.2.1⟩ (Xyf hdu h2))) ?_;rintro v39 w39 ⟨⟨p39,c39,rfl,q39,k39⟩,he39,h,g39⟩;refine ⟨nw1,?_⟩;have g:=gtw g g39;try replace B1:=B1.gt g39 rfl
   try replace B2:=B2.gt g39 rfl
   try replace B4:=B4.gt g39 rfl
   try replace B7:=B7.gt g39 rfl
   have hO:=hO.gt g39 rfl;have B3:=B3.gx g39 Os;obtain ⟨lo39,hs0,hm39,k39⟩:=Uid hOlt k39 q39;refine Zy (g39) ?_;refine Zt 6 J J ?_;refine Zn (L':=[7,8,9,10,11]) [3,0,3,0,2,3,1,2,3,2,3,2] J J J ?_;refine Yc _ J Zc Zs (pqc J pq0) J J ?_;intro b41 w41 N41;have x41_1:=N41.ne B1;have x41_2:=N41.ne B2;have x41_3:=N41.ne B3;have x41_4:=N41.ne B4;have x41_7:=N41.ne B7;have l41:=We N41 g.size;have hO:=hO.new N41;have k39:=k39.new N41;have g:=gtg g N41.g;replace B1:=B1.grow (N41.g);replace B2:=B2.grow (N41.g);replace B3:=B3.grow (N41.g);replace B4:=B4.grow (N41.g);replace B7:=B7.grow (N41.g);have h:=h.grow (N41.g);have B41:=N41.blk;refine Zy (GT.of_g (N41.g)) ?_;refine Zt 7 J J ?_;refine Xb (L':=[8,9,10,11]) [3,0,3,0,2,3,1,2,3,2,3,2] J J J J ?_;refine Xfc J Zc Zs J (Zd J) hO (Zd J) J B41.row (Vd (t:=nd0) (v:=.slice none 0 0) (Qab _ _)) (by simp;omega) (by have:=g.size;omega) ⟨by have:=g.size;omega,by have q1:=B1.lt;have q2:=B2.lt;have q3:=B3.lt;have q4:=B4.lt;have q7:=B7.lt;have q41:=B41.lt;simp;omega⟩ ?_;intro a42 c42 w42 hO2 hg42 hat42;have B1:=B1.keep hg42 (hO.ne Os);have B2:=B2.keep hg42 (hO.ne Os);have B3:=B3.keep hg42 (hO.ne Os);have B4:=B4.keep hg42 (hO.ne Os);have g:=Ve g hg42 (fun k hk=>hO.ge k hk);have h:=h.keepO hg42 hO O;try obtain ⟨k39,hs1⟩:=k39.app hO (fun k hk=>.inr (hs0 k hk)) hg42 hat42
   replace hO:=hO2;refine Xx ?_;have n7:=hO.ne (b:=b7) Os;have n41:=hO.ne (b:=b41) Os;have hO:=hO.sub (Y:=[b1,b2,b3,b4]) Oj;obtain ⟨g42,c43,l42,es,_⟩:=hO.setl;injection es with e1 _ e2;subst e1 e2;refine Vla (L':=[9,10,11]) 8 J J J (fun _=>Xta Zc (Zd J) (Zd J) (fun _=>by simp;omega)) ?_;refine Vla (L':=[9,11]) 10 J J J (fun _=>Zi Zh (Zd J)) ?_;refine Zpb 9 11 J J ?_ ?_
   ·refine Xb (L':=[11]) [3,0,3,0,2,3,1,2,3,2,3,2] rfl rfl rfl rfl ?_
    obtain ⟨g43,c44,l43,es3,hBg,hfit,hgx,hgl,hset⟩:=hO.setl;injection es3 with e3 _ e4;injection e3 with e3;injection e3 with e3 _ _;subst e3 e4;have eo:0+((dclA F rs0 i).1.length:Int).toNat*9=(dclA F rs0 i).1.length*9:=by rw [Bca];omega
    refine Xn J Yj (Zd J) (Zd J) J J hBg (Nat.ble_eq.mpr (by rw [eo];exact hfit)) J ?_;intro wS hgS hzS BS;rw [eo] at BS;have hO:=hset hgS BS (Vt k39 hm39 Oj hs1);have B1:=B1.keep hgS (fun e=>hgx (by injection e with e;simp [← e]));have B2:=B2.keep hgS (fun e=>hgx (by injection e with e;simp [← e]));have B3:=B3.keep hgS (fun e=>hgx (by injection e with e;simp [← e]));have B4:=B4.keep hgS (fun e=>hgx (by injection e with e;simp [← e]));have g:=Yd g hgS hgl;have h:=h.keep hgS hBg O (.inl rfl);refine Xx ?_;refine Zt 11 J J ?_;refine Xb (L':=[]) [3,0,3,0,2,3,1,2,3,2,3,2] J J J J ?_;refine Xr J Vb (Zd J) (Zd J) J B2 J J ?_;intro wS7 hgS7 hzS7;have C2:=B2;clear B2;intro B2;replace B1:=B1.keep hgS7 (by intro h;injection h with h;first|exact x2_1 h.symm|exact x1_2 h|omega);replace B3:=B3.keep hgS7 (by intro h;injection h with h;first|exact x2_3 h.symm|exact x3_2 h|omega);replace B4:=B4.keep hgS7 (by intro h;injection h with h;first|exact x2_4 h.symm|exact x4_2 h|omega);have g:=Yd g hgS7 O;have h:=h.keep hgS7 C2 O (by first|exact .inl rfl|exact .inr ⟨by simp,fun hm=>by have:=hTB _ hm;omega⟩);have hO:=hO.keep hgS7 Os;refine Xx ?_;refine Wra [(1,_,_),(2,_,_),(3,_,_),(4,_,_),(5,_,_),(29,_,_),(30,_,_),(31,_,_)] (Za J (Za J (Za J (Za J (Za J (Za J (Za J (Za J (Zr _))))))))) ?_;refine Jg (hK13 _ _ _ ?_);refine Wc [3,3] ?_;refine Jga J J O ?_;refine Zz J (fun _=>Zw (Zd J)) ?_;refine Wx [(31,_,_),(1,_,_),(2,_,_),(3,_,_),(4,_,_),(5,_,_),(29,_,_),(30,_,_)] (Za J (Za J (Za J (Za J (Za J (Za J (Za J (Za J (Zr _))))))))) ?_;refine Ze (fun a ha=>?_);refine ⟨rfl,?_⟩
    exact ⟨i+1,ha,⟨⟨h2,he39,h,_,B2,(by have q:=hO;simp only [Bda,Bea] at q ⊢;exact q)⟩,g⟩,(Yb (blkE B1) (Yb (blkE B3) (Yb (blkE B4) (Wd _)))),O⟩
   ·refine Xb (L':=[9]) [3,0,3,0,2,3,1,2,3,2,3,2] rfl rfl rfl rfl ?_
    refine Xr J Vb (Zd J) (Zd J) J B2 J J ?_;intro wS6 hgS6 hzS6;have C2:=B2;clear B2;intro B2;replace B1:=B1.keep hgS6 (by intro h;injection h with h;first|exact x2_1 h.symm|exact x1_2 h|omega);replace B3:=B3.keep hgS6 (by intro h;injection h with h;first|exact x2_3 h.symm|exact x3_2 h|omega);replace B4:=B4.keep hgS6 (by intro h;injection h with h;first|exact x2_4 h.symm|exact x4_2 h|omega);have g:=Yd g hgS6 O;have h:=h.keep hgS6 C2 O (by first|exact .inl rfl|exact .inr ⟨by simp,fun hm=>by have:=hTB _ hm;omega⟩);have hO:=hO.keep hgS6 Os;have k39:=k39.keep hgS6 Oi;refine Xx ?_;refine Zt 9 J J ?_;refine Xb (L':=[]) [3,0,3,0,2,3,1,2,3,2,3,2] J J J J ?_;obtain ⟨g43,c44,l43,es3,hBg,hfit,hgx,hgl,hset⟩:=hO.setl;injection es3 with e3 _ e4;injection e3 with e3;injection e3 with e3 _ _;subst e3 e4;have eo:0+((dclA F rs0 i).1.length:Int).toNat*9=(dclA F rs0 i).1.length*9:=by rw [Bca];omega
    refine Xn J Yj (Zd J) (Zd J) J J hBg (Nat.ble_eq.mpr (by rw [eo];exact hfit)) J ?_;intro wS hgS hzS BS;rw [eo] at BS;have hO:=hset hgS BS (Vt k39 hm39 Oj hs1);have B1:=B1.keep hgS (fun e=>hgx (by injection e with e;simp [← e]));have B2:=B2.keep hgS (fun e=>hgx (by injection e with e;simp [← e]));have B3:=B3.keep hgS (fun e=>hgx (by injection e with e;simp [← e]));have B4:=B4.keep hgS (fun e=>hgx (by injection e with e;simp [← e]));have g:=Yd g hgS hgl;have h:=h.keep hgS hBg O (.inl rfl);refine Xx ?_;refine Wra [(1,_,_),(2,_,_),(3,_,_),(4,_,_),(5,_,_),(29,_,_),(30,_,_),(31,_,_)] (Za J (Za J (Za J (Za J (Za J (Za J (Za J (Za J (Zr _))))))))) ?_;refine Jg (hK13 _ _ _ ?_);refine Wc [3,3] ?_;refine Jga J J O ?_;refine Zz J (fun _=>Zw (Zd J)) ?_;refine Wx [(31,_,_),(1,_,_),(2,_,_),(3,_,_),(4,_,_),(5,_,_),(29,_,_),(30,_,_)] (Za J (Za J (Za J (Za J (Za J (Za J (Za J (Za J (Zr _))))))))) ?_;refine Ze (fun a ha=>?_);refine ⟨rfl,?_⟩;exact ⟨i+1,ha,⟨⟨h2,he39,h,_,B2,(by have q:=hO;simp only [Bda,Bea] at q ⊢;exact q)⟩,g⟩,(Yb (blkE B1) (Yb (blkE B3) (Yb (blkE B4) (Wd _)))),O⟩
  ·refine Zn (L':=[4,7,8,9,10,11]) [3,0,3,0,2,3,1,2,3,2,3,2] rfl rfl rfl ?_
   refine Yc _ J Zc Zs (pqc J pq0) J J ?_;intro b41 w41 N41;have x41_1:=N41.ne B1;have x41_2:=N41.ne B2;have x41_3:=N41.ne B3;have x41_4:=N41.ne B4;have x41_7:=N41.ne B7;have l41:=We N41 g.size;have hO:=hO.new N41;have g:=gtg g N41.g;replace B1:=B1.grow (N41.g);replace B2:=B2.grow (N41.g);replace B3:=B3.grow (N41.g);replace B4:=B4.grow (N41.g);replace B7:=B7.grow (N41.g);have h:=h.grow (N41.g);have hkid:=hkid.grow (N41.g);have B41:=N41.blk;refine Zy (GT.of_g (N41.g)) ?_;refine Zt 4 J J ?_;refine Zn (L':=[7,8,9,10,11]) [3,0,3,0,2,3,1,2,3,2,3,2] J J J ?_;have hOlt:=hO.lt;refine Zva J (Zu Jx Xy (Ya (Zd J) (Ya (Zd J) (Yl))) J) (Uhd [b1,b2,b3,b4,b7] HF hdk hdp O h hei hkid (Aia.2 ⟨B1.lt,Aia.2 ⟨B2.lt,Aia.2 ⟨B3.lt,Aia.2 ⟨B4.lt,Aia.2 ⟨B7.lt,Bra _⟩⟩⟩⟩⟩) g.size) ((fun ch w' hz=>Xse J hv J J J (B2.gt hz.2.2 J) (B3.gx hz.2.2 Os) (B4.gt hz.2.2 J) ⟨O,O,O⟩ (gg_t (Ugd g hn0) hz.2.2 hn0) ⟨hz.1,hz.2.1⟩ (Xyf hdu h2))) ?_;rintro v39 w39 ⟨⟨p39,c39,rfl,q39,k39⟩,he39,h,g39⟩;refine ⟨nw1,?_⟩;have g:=gtw g g39;try replace B1:=B1.gt g39 rfl
   try replace B2:=B2.gt g39 rfl
   try replace B4:=B4.gt g39 rfl
   try replace B7:=B7.gt g39 rfl
   try replace B41:=B41.gt g39 rfl
   have hO:=hO.gt g39 rfl;have B3:=B3.gx g39 Os;obtain ⟨lo39,hs0,hm39,k39⟩:=Uid hOlt k39 q39;refine Zy (g39) ?_;refine Zt 7 J J ?_;refine Xb (L':=[8,9,10,11]) [3,0,3,0,2,3,1,2,3,2,3,2] J J J J ?_;refine Xfc J Zc Zs J (Zd J) hO (Zd J) J B41.row (Vd (t:=nd0) (v:=.slice none 0 0) (Qab _ _)) (by simp;omega) (by have:=g.size;omega) ⟨by have:=g.size;omega,by have q1:=B1.lt;have q2:=B2.lt;have q3:=B3.lt;have q4:=B4.lt;have q7:=B7.lt;have q41:=B41.lt;simp;omega⟩ ?_;intro a42 c42 w42 hO2 hg42 hat42;have B1:=B1.keep hg42 (hO.ne Os);have B2:=B2.keep hg42 (hO.ne Os);have B3:=B3.keep hg42 (hO.ne Os);have B4:=B4.keep hg42 (hO.ne Os);have g:=Ve g hg42 (fun k hk=>hO.ge k hk);have h:=h.keepO hg42 hO O;try obtain ⟨k39,hs1⟩:=k39.app hO (fun k hk=>.inr (hs0 k hk)) hg42 hat42
   replace hO:=hO2;refine Xx ?_;have n7:=hO.ne (b:=b7) Os;have n41:=hO.ne (b:=b41) Os;have hO:=hO.sub (Y:=[b1,b2,b3,b4]) Oj;obtain ⟨g42,c43,l42,es,_⟩:=hO.setl;injection es with e1 _ e2;subst e1 e2;refine Vla (L':=[9,10,11]) 8 J J J (fun _=>Xta Zc (Zd J) (Zd J) (fun _=>by simp;omega)) ?_;refine Vla (L':=[9,11]) 10 J J J (fun _=>Zi Zh (Zd J)) ?_;refine Zpb 9 11 J J ?_ ?_
   ·refine Xb (L':=[11]) [3,0,3,0,2,3,1,2,3,2,3,2] rfl rfl rfl rfl ?_
    obtain ⟨g43,c44,l43,es3,hBg,hfit,hgx,hgl,hset⟩:=hO.setl;injection es3 with e3 _ e4;injection e3 with e3;injection e3 with e3 _ _;subst e3 e4;have eo:0+((dclA F rs0 i).1.length:Int).toNat*9=(dclA F rs0 i).1.length*9:=by rw [Bca];omega
    refine Xn J Yj (Zd J) (Zd J) J J hBg (Nat.ble_eq.mpr (by rw [eo];exact hfit)) J ?_;intro wS hgS hzS BS;rw [eo] at BS;have hO:=hset hgS BS (Vt k39 hm39 Oj hs1);have B1:=B1.keep hgS (fun e=>hgx (by injection e with e;simp [← e]));have B2:=B2.keep hgS (fun e=>hgx (by injection e with e;simp [← e]));have B3:=B3.keep hgS (fun e=>hgx (by injection e with e;simp [← e]));have B4:=B4.keep hgS (fun e=>hgx (by injection e with e;simp [← e]));have g:=Yd g hgS hgl;have h:=h.keep hgS hBg O (.inl rfl);refine Xx ?_;refine Zt 11 J J ?_;refine Xb (L':=[]) [3,0,3,0,2,3,1,2,3,2,3,2] J J J J ?_;refine Xr J Vb (Zd J) (Zd J) J B2 J J ?_;intro wS7 hgS7 hzS7;have C2:=B2;clear B2;intro B2;replace B1:=B1.keep hgS7 (by intro h;injection h with h;first|exact x2_1 h.symm|exact x1_2 h|omega);replace B3:=B3.keep hgS7 (by intro h;injection h with h;first|exact x2_3 h.symm|exact x3_2 h|omega);replace B4:=B4.keep hgS7 (by intro h;injection h with h;first|exact x2_4 h.symm|exact x4_2 h|omega);have g:=Yd g hgS7 O;have h:=h.keep hgS7 C2 O (by first|exact .inl rfl|exact .inr ⟨by simp,fun hm=>by have:=hTB _ hm;omega⟩);have hO:=hO.keep hgS7 Os;refine Xx ?_;refine Wra [(1,_,_),(2,_,_),(3,_,_),(4,_,_),(5,_,_),(29,_,_),(30,_,_),(31,_,_)] (Za J (Za J (Za J (Za J (Za J (Za J (Za J (Za J (Zr _))))))))) ?_;refine Jg (hK13 _ _ _ ?_);refine Wc [3,3] ?_;refine Jga J J O ?_;refine Zz J (fun _=>Zw (Zd J)) ?_;refine Wx [(31,_,_),(1,_,_),(2,_,_),(3,_,_),(4,_,_),(5,_,_),(29,_,_),(30,_,_)] (Za J (Za J (Za J (Za J (Za J (Za J (Za J (Za J (Zr _))))))))) ?_;refine Ze (fun a ha=>?_);refine ⟨rfl,?_⟩
    exact ⟨i+1,ha,⟨⟨h2,he39,h,_,B2,(by have q:=hO;simp only [Bda,Bea] at q ⊢;exact q)⟩,g⟩,(Yb (blkE B1) (Yb (blkE B3) (Yb (blkE B4) (Wd _)))),O⟩
   ·refine Xb (L':=[9]) [3,0,3,0,2,3,1,2,3,2,3,2] rfl rfl rfl rfl ?_
    refine Xr J Vb (Zd J) (Zd J) J B2 J J ?_;intro wS6 hgS6 hzS6;have C2:=B2;clear B2;intro B2;replace B1:=B1.keep hgS6 (by intro h;injection h with h;first|exact x2_1 h.symm|exact x1_2 h|omega);replace B3:=B3.keep hgS6 (by intro h;injection h with h;first|exact x2_3 h.symm|exact x3_2 h|omega);replace B4:=B4.keep hgS6 (by intro h;injection h with h;first|exact x2_4 h.symm|exact x4_2 h|omega);have g:=Yd g hgS6 O;have h:=h.keep hgS6 C2 O (by first|exact .inl rfl|exact .inr ⟨by simp,fun hm=>by have:=hTB _ hm;omega⟩);have hO:=hO.keep hgS6 Os;have k39:=k39.keep hgS6 Oi;refine Xx ?_;refine Zt 9 J J ?_;refine Xb (L':=[]) [3,0,3,0,2,3,1,2,3,2,3,2] J J J J ?_;obtain ⟨g43,c44,l43,es3,hBg,hfit,hgx,hgl,hset⟩:=hO.setl;injection es3 with e3 _ e4;injection e3 with e3;injection e3 with e3 _ _;subst e3 e4;have eo:0+((dclA F rs0 i).1.length:Int).toNat*9=(dclA F rs0 i).1.length*9:=by rw [Bca];omega
    refine Xn J Yj (Zd J) (Zd J) J J hBg (Nat.ble_eq.mpr (by rw [eo];exact hfit)) J ?_;intro wS hgS hzS BS;rw [eo] at BS;have hO:=hset hgS BS (Vt k39 hm39 Oj hs1);have B1:=B1.keep hgS (fun e=>hgx (by injection e with e;simp [← e]));have B2:=B2.keep hgS (fun e=>hgx (by injection e with e;simp [← e]));have B3:=B3.keep hgS (fun e=>hgx (by injection e with e;simp [← e]));have B4:=B4.keep hgS (fun e=>hgx (by injection e with e;simp [← e]));have g:=Yd g hgS hgl;have h:=h.keep hgS hBg O (.inl rfl);refine Xx ?_;refine Wra [(1,_,_),(2,_,_),(3,_,_),(4,_,_),(5,_,_),(29,_,_),(30,_,_),(31,_,_)] (Za J (Za J (Za J (Za J (Za J (Za J (Za J (Za J (Zr _))))))))) ?_;refine Jg (hK13 _ _ _ ?_);refine Wc [3,3] ?_;refine Jga J J O ?_;refine Zz J (fun _=>Zw (Zd J)) ?_;refine Wx [(31,_,_),(1,_,_),(2,_,_),(3,_,_),(4,_,_),(5,_,_),(29,_,_),(30,_,_)] (Za J (Za J (Za J (Za J (Za J (Za J (Za J (Za J (Zr _))))))))) ?_;refine Ze (fun a ha=>?_);refine ⟨rfl,?_⟩;exact ⟨i+1,ha,⟨⟨h2,he39,h,_,B2,(by have q:=hO;simp only [Bda,Bea] at q ⊢;exact q)⟩,g⟩,(Yb (blkE B1) (Yb (blkE B3) (Yb (blkE B4) (Wd _)))),O⟩
 replace h2:i=F.kids.length:=by simp only [Wqg] at h2;omega
 subst h2;refine Jee J (hK9 _ _ _ ?_);refine Uia [(1,_,_),(2,_,_),(3,_,_),(4,_,_),(5,_,_)] (Za J (Za J (Za J (Za J (Za J (Zr _)))))) ?_;refine Wg fun K15 hK15=>?_;refine Wc [3,3,3,0,0,3,3,3,1,2,3] ?_;obtain ⟨fv,ns,ng,nn,nf,qv,sv,cv,rv,hP⟩:=id h;obtain ⟨fk,fp,fm,fc,fy,ef,hfb⟩:=Uac hP.T [109,97,105,110];refine Zz J (fun _=>Zw (Zd J)) ?_;refine Zz J (fun _=>Zna (Zd J)) ?_;refine Zz J (fun _=>Zi Qh (Zd J)) ?_;refine Uz J (Zq Wu (Zd J) (fun _=>hP.B.at_ J)) ?_;refine Uz J (Zae ef hP.T.hf (Zd J) Xa) ?_;refine Zz J (fun _=>Zw (Zd J)) ?_;refine Zz J (fun _=>Uta (Zd J) J) ?_;refine Zz J (fun _=>Uta (Zd J) J) ?_;refine Xc J Uf J ?_;intro b8 w8 N8;have x8_1:=N8.ne B1;have x8_2:=N8.ne B2;have x8_3:=N8.ne B3;have x8_4:=N8.ne B4;have l8:=We N8 g.size;have hO:=hO.new N8;have g:=gtg g N8.g;replace B1:=B1.grow (N8.g);replace B2:=B2.grow (N8.g);replace B3:=B3.grow (N8.g);replace B4:=B4.grow (N8.g);have hk0:=hk0.grow (N8.g);have h:=h.grow (N8.g);have B8:=N8.blk;refine Xq J Zja (Zd J) (Zd J) J J B8 J J ?_;intro wS8 hgS8 hzS8;have C8:=B8;clear B8;intro B8;replace B1:=B1.keep hgS8 (by intro h;injection h with h;first|exact x8_1 h.symm|exact x1_8 h|omega);replace B2:=B2.keep hgS8 (by intro h;injection h with h;first|exact x8_2 h.symm|exact x2_8 h|omega);replace B3:=B3.keep hgS8 (by intro h;injection h with h;first|exact x8_3 h.symm|exact x3_8 h|omega);replace B4:=B4.keep hgS8 (by intro h;injection h with h;first|exact x8_4 h.symm|exact x4_8 h|omega);have g:=Yd g hgS8 O;have h:=h.keep hgS8 C8 O (by first|exact .inl rfl|exact .inr ⟨by simp,fun hm=>by have:=hTB _ hm;omega⟩)
 have hk0:=hk0.keep hgS8 (fun k hk _ e=>by injection e with e;omega);have hO:=hO.keep hgS8 Os;refine Zz J (fun _=>Jc (Zd J)) ?_;refine Wx [(1,_,_),(2,_,_),(3,_,_),(4,_,_),(8,_,_),(9,_,_)] (Za J (Za J (Za J (Za J (Za J (Za J (Zr _))))))) ?_;refine Ze (hK15 _ _ _ ?_);refine Wg fun K16 hK16=>?_;refine Wc [3,1] ?_;refine Zz J (fun _=>Zw (Zd J)) ?_;refine Zva J (Zu Ye Xy (Ya (Zd J) (Ya Xa (Ya Xa (Yl)))) J) (Vf _ _ _ _) ((fun ch w' hz=>Xqd J hv J J J (B2.grow hz.2.2) (B3.grow hz.2.2) (B4.grow hz.2.2) ⟨O,O,O⟩ (Ugd (g.trans (GT.of_g hz.2.2)) hn0) (T:={ (dclA F rs0 F.kids.length).2 with ea:=0,ee:=5 }) ⟨hz.2.1,by show ¬ (5:Int)=0;decide⟩ (er_r5 hdu hei hz.1))) ?_;rintro v55 w55 ⟨rfl,hq55,g55⟩;refine ⟨fun _=>g55,?_⟩;have g:=gtg g g55;replace B1:=B1.grow (g55);replace B2:=B2.grow (g55);replace B3:=B3.grow (g55);replace B4:=B4.grow (g55);replace B8:=B8.grow (g55);have hk0:=hk0.grow (g55);have h:=h.grow (g55);have hO:=hO.grow (g55);refine Wx [(1,_,_),(2,_,_),(3,_,_),(4,_,_),(8,_,_)] (Za J (Za J (Za J (Za J (Za J (Zr _)))))) ?_;refine Ze (hK16 _ _ _ ?_);refine Wg fun K17 hK17=>?_;refine Wg fun K18 hK18=>?_;refine Wc [3,0,3,3,3,3,0,3,3,3] ?_;refine Zz J (fun _=>Zi Qz (Zd J)) ?_;refine Uz J (Zq Vw (Zd J) (fun _=>B8.at_ J)) ?_;refine Yha Wf J ?_;refine Zz J (fun _=>Qlc (Zd J) Xa) ?_;refine Zz J (fun _=>Zw (Zd J)) ?_;refine Zk J J J (fun _=>Zi Ja (Zd J)) ?_;refine Yg J J J (Zo Zm (Zp J id) J (fun _=>B8.row.part 2 2)) ?_;refine Zk J J J (fun _=>Uv [_,_] Xk J Vm (Vj) J) ?_;refine Zk J J J (fun _=>Zhd Wo (Zp J id) (Zp J id) J) ?_;refine Zz J (fun _=>Xd (Zd J) (Zp J id)) ?_
 refine Wx [(1,_,_),(2,_,_),(3,_,_),(4,_,_),(65,_,_)] (Za J (Za J (Za J (Za J (Za J (Zr _)))))) ?_;refine Ze (hK18 _ _ _ ?_);refine Xpb (Zd J) (fun h3=>?_) (fun h3=>?_)
 ·obtain ⟨hfk,hpv,hfy⟩:=hfb hq55
  rw [hfk] at hpv;have hfm:=Xte hP.T hq55 hpv;replace h3:(decide (0<((parT (findD F 4 [109,97,105,110]).1).length:Int)) || !tyEqB (resT (findD F 4 [109,97,105,110]).1) ty0)=true:=by rw [← eqT0,← hfy,← hfm];exact h3
  refine Wg fun K19 hK19=>?_;refine Wc [3,0,3,3] ?_;refine Zz J (fun _=>Zi Zh (Zd J)) ?_;refine Uz J (Zq Zg (Zd J) (fun _=>B1.at_ J)) ?_;refine Yha Zc J ?_;refine Zz J (fun _=>Zw Xa) ?_;refine Wx [(2,_,_),(3,_,_),(4,_,_),(67,_,_),(68,_,_),(69,_,_)] (Za J (Za J (Za J (Za J (Za J (Za J (Zr _))))))) ?_;refine Ze (hK19 _ _ _ ?_);refine Wsb ?_;refine Jvc (fun (i:Nat) u2=>(i≤F.kids.length∧∀ j,j<i→¬ ((Zb F j).kind=4∧(Zb F j).text=[109,97,105,110]))∧GT (mutC (b3::TB)) n0 w u2) _ [(2,True,_),(3,True,_),(4,True,_),(67,True,_),(68,True,_)] (fun (i:Nat)=>[(69,True,.int .i64 i)]) (fun (i:Nat)=>F.kids.length-i) (0) ⟨⟨Bia _,fun j hj=>absurd hj O⟩,g⟩ (Yb (blkE B1) (Yb (blkE B2) (Yb (blkE B3) (Yb (blkE B4) (Yb (blkE B8) (Wd _)))))) (Za J (Za J (Za J (Za J (Za J (Za J (Zr _))))))) ?_;clear B1 B2 B3 B4 B8;rintro i u2 ⟨hI2,gl2⟩ ⟨B1,B2,B3,B4,B8,_⟩;replace B1:Blk _ _ _ _:=B1;replace B2:Blk _ _ _ _:=B2;replace B3:Blk _ _ _ _:=B3;replace B4:Blk _ _ _ _:=B4;replace B8:Blk _ _ _ _:=B8;have g:=gl2;obtain ⟨hi,hno⟩:=hI2;have hk0:=hkw.gt gl2 (fun k h=>h);refine Wg fun K20 hK20=>?_;refine Wc [3] ?_;refine Zz J (fun _=>Qkc (Zd J) (Zd J)) ?_;refine Ze (hK20 _ _ _ ?_);refine Uia [(2,_,_),(3,_,_),(4,_,_),(67,_,_),(68,_,_),(69,_,_),(70,_,_)] (Za J (Za J (Za J (Za J (Za J (Za J (Za J (Zr _)))))))) ?_;refine Wg fun K21 hK21=>?_;refine Xpb (Zd J) (fun h4=>?_) (fun h4=>?_)
  ·replace h4:i<F.kids.length:=by simp only [Wpg] at h4;omega
   obtain ⟨e0,p1,c1,hcell,hkid⟩:=Yq hk0 (i:=i) h4;refine Jeb (hK21 _ _ _ ?_);refine Uia [(2,_,_),(3,_,_),(4,_,_),(67,_,_),(68,_,_),(69,_,_)] (Za J (Za J (Za J (Za J (Za J (Za J (Zr _))))))) ?_;refine Wg fun K22 hK22=>?_;refine Wsb ?_;refine Wg fun K23 hK23=>?_;refine Wc [3,0,1,2] ?_;refine Zma Zc J J O e0 ?_;refine Uz J (Zo Zf (Zd J) J (fun _=>hcell)) ?_;refine Xc J Zs J ?_;intro b11 w11 N11;have x11_1:=N11.ne B1;have x11_2:=N11.ne B2;have x11_3:=N11.ne B3;have x11_4:=N11.ne B4;have x11_8:=N11.ne B8;have l11:=We N11 g.size;have g:=gtg g N11.g;replace B1:=B1.grow (N11.g);replace B2:=B2.grow (N11.g);replace B3:=B3.grow (N11.g);replace B4:=B4.grow (N11.g);replace B8:=B8.grow (N11.g);have B11:=N11.blk;refine Xq J Yj (Zd J) (Zd J) J J B11 J J ?_;intro wS9 hgS9 hzS9;clear B11;intro B11;replace B1:=B1.keep hgS9 (by intro h;injection h with h;first|exact x11_1 h.symm|exact x1_11 h|omega);replace B2:=B2.keep hgS9 (by intro h;injection h with h;first|exact x11_2 h.symm|exact x2_11 h|omega);replace B3:=B3.keep hgS9 (by intro h;injection h with h;first|exact x11_3 h.symm|exact x3_11 h|omega);replace B4:=B4.keep hgS9 (by intro h;injection h with h;first|exact x11_4 h.symm|exact x4_11 h|omega);replace B8:=B8.keep hgS9 (by intro h;injection h with h;first|exact x11_8 h.symm|exact x8_11 h|omega);have g:=Yd g hgS9 O;refine Wx [(2,_,_),(3,_,_),(4,_,_),(11,_,_),(67,_,_),(68,_,_),(69,_,_)] (Za J (Za J (Za J (Za J (Za J (Za J (Za J (Zr _)))))))) ?_;refine Ze (hK23 _ _ _ ?_);refine Wc [3,0,3,3,3,0,3,3,3,0,1] ?_;refine Zz J (fun _=>Zi Xi (Zd J)) ?_;refine Uz J (Zq Yf (Zd J) (fun _=>B11.at_ J)) ?_
   refine Zz J (fun _=>Yka (Zd J) Xa) ?_;refine Zz J (fun _=>Zw (Zd J)) ?_;refine Zk J J J (fun _=>Zi Xe (Zd J)) ?_;refine Yg J J J (Zq Yy (Zp J id) (fun _=>B11.at_ J)) ?_;refine Zk J J J (fun _=>Wgc (Zp J id) Xa) ?_;refine Zz J (fun _=>Xd (Zd J) (Zp J id)) ?_;refine Zz J (fun _=>Zi Xz (Zd J)) ?_;refine Uz J (Zq Yf (Zd J) (fun _=>B11.at_ J)) ?_;refine Zva J (Zu Ye Xy (Ya (Zd J) (Ya (Zd J) (Ya Xa (Yl)))) J) (Vf _ _ _ _) ((fun ch w' hz=>Xqd J hv J J J (B2.grow hz.2.2) (B3.grow hz.2.2) (B4.grow hz.2.2) ⟨O,O,O⟩ (Ugd (g.trans (GT.of_g hz.2.2)) hn0) (T:={ (dclA F rs0 F.kids.length).2 with ea:=(Zb F i).pos,ee:=7 }) ⟨hz.2.1,by show ¬ (7:Int)=0;decide⟩ (er_r7 hdu hei HF.res hq55 h3 h4 (Xbg hz.1)))) ?_;rintro v83 w83 ⟨rfl,hq83,g83⟩;refine ⟨fun _=>g83,?_⟩;have g:=gtg g g83;replace B1:=B1.grow (g83);replace B2:=B2.grow (g83);replace B3:=B3.grow (g83);replace B4:=B4.grow (g83);replace B8:=B8.grow (g83);refine Wx [(2,_,_),(3,_,_),(4,_,_),(67,_,_),(68,_,_),(69,_,_)] (Za J (Za J (Za J (Za J (Za J (Za J (Zr _))))))) ?_;refine Ze (hK22 _ _ _ ?_);refine Wc [3,3] ?_;refine Jga J J O ?_;refine Zz J (fun _=>Zw (Zd J)) ?_;refine Wx [(69,_,_),(2,_,_),(3,_,_),(4,_,_),(67,_,_),(68,_,_)] (Za J (Za J (Za J (Za J (Za J (Za J (Zr _))))))) ?_;refine Ze (fun a ha=>?_);refine ⟨rfl,?_⟩;exact ⟨i+1,ha,⟨⟨h4,Xcg hno hq83⟩,g⟩,(Yb (blkE B1) (Yb (blkE B2) (Yb (blkE B3) (Yb (blkE B4) (Yb (blkE B8) (Wd _)))))),O⟩
  exfalso;replace h4:i=F.kids.length:=by simp only [Wqg] at h4;omega
  obtain ⟨j,hj,k4,e4,_⟩:=Uqa (show 0≤(findD F 4 [109,97,105,110]).2 from Wrg hq55);exact hno j O ⟨k4,e4⟩;done
 obtain ⟨hfk,hpv,hfy⟩:=hfb hq55;rw [hfk] at hpv;have hfm:=Xte hP.T hq55 hpv;replace h3:(decide (0<((parT (findD F 4 [109,97,105,110]).1).length:Int)) || !tyEqB (resT (findD F 4 [109,97,105,110]).1) ty0)=false:=by rw [← eqT0,← hfy,← hfm];exact h3
 refine Jeb (hK17 _ _ _ ?_);refine Uia [(2,_,_),(3,_,_),(4,_,_)] (Za J (Za J (Za J (Zr _)))) ?_;refine Wg fun K24 hK24=>?_;refine Wc [0,2,2,2] ?_;refine Uz J (Zo Zf (Zd J) J (fun _=>B2.row)) ?_;refine Xq J Yj (Zd J) (Zd J) J J B2 J J ?_;intro wS10 hgS10 hzS10;have C2:=B2;clear B2;intro B2;replace B1:=B1.keep hgS10 (by intro h;injection h with h;first|exact x2_1 h.symm|exact x1_2 h|omega);replace B3:=B3.keep hgS10 (by intro h;injection h with h;first|exact x2_3 h.symm|exact x3_2 h|omega);replace B4:=B4.keep hgS10 (by intro h;injection h with h;first|exact x2_4 h.symm|exact x4_2 h|omega);replace B8:=B8.keep hgS10 (by intro h;injection h with h;first|exact x2_8 h.symm|exact x8_2 h|omega);have g:=Yd g hgS10 O;have h:=h.keep hgS10 C2 O (by first|exact .inl rfl|exact .inr ⟨by simp,fun hm=>by have:=hTB _ hm;omega⟩);have hO:=hO.keep hgS10 Os;refine Xq J Wta (Zd J) Xa J J B3 J J ?_;intro wS11 hgS11 hzS11;clear B3;intro B3;replace B1:=B1.keep hgS11 (by intro h;injection h with h;first|exact x3_1 h.symm|exact x1_3 h|omega);replace B2:=B2.keep hgS11 (by intro h;injection h with h;first|exact x3_2 h.symm|exact x2_3 h|omega);replace B4:=B4.keep hgS11 (by intro h;injection h with h;first|exact x3_4 h.symm|exact x4_3 h|omega);replace B8:=B8.keep hgS11 (by intro h;injection h with h;first|exact x3_8 h.symm|exact x8_3 h|omega);have g:=Yd g hgS11 O;have hO:=hO.keep hgS11 Os;refine Xq J Vva (Zd J) Xa J J B4 J J ?_;intro wS12 hgS12 hzS12;clear B4;intro B4;replace B1:=B1.keep hgS12 (by intro h;injection h with h;first|exact x4_1 h.symm|exact x1_4 h|omega)
 replace B2:=B2.keep hgS12 (by intro h;injection h with h;first|exact x4_2 h.symm|exact x2_4 h|omega);replace B3:=B3.keep hgS12 (by intro h;injection h with h;first|exact x4_3 h.symm|exact x3_4 h|omega);replace B8:=B8.keep hgS12 (by intro h;injection h with h;first|exact x4_8 h.symm|exact x8_4 h|omega);have g:=Yd g hgS12 O;have hO:=hO.keep hgS12 Os;refine Wx [(2,_,_),(3,_,_),(4,_,_)] (Za J (Za J (Za J (Zr _)))) ?_;refine Ze (hK24 _ _ _ ?_);refine Jfb (?_);refine Yzg Joa Uve ?_;rintro v90 w90 ⟨_,g90⟩;have B2:=B2.grow g90;have B3:=B3.grow g90;have B4:=B4.grow g90;have hO:=hO.grow g90;have g:=g.trans (GT.of_g g90);refine Zrc (Yua (rs:=[.cell 2 26,.cell 3 3,.cell 4 30]) (vs:=[_,_,_]) J J (Zra J Zf J (by first|exact B1.row|exact B2.row|exact B3.row|exact B4.row|exact B8.row) (Xbb J Yf (by first|exact B1.at_ J|exact B2.at_ J|exact B3.at_ J|exact B4.at_ J|exact B8.at_ J) (Xbb J Yla (by first|exact B1.at_ J|exact B2.at_ J|exact B3.at_ J|exact B4.at_ J|exact B8.at_ J) (Ub)))) J ?_);have er:refCheck F=(refA F,0,0):=Xzf hv (by rw [(Jxb hdu).1,Waf HF.res hq55,h3];exact hei);exact ⟨⟨_,by rw [er],by rw [er,(Jxb hdu).2];exact Xp (t:=annT F _ ty0) rfl hO.kd⟩,Ugd g hn0⟩
theorem Uxe(F:Nd)(v:Ga)(D:Nat→Prop)(w:Aa)(hkD:Kd w D F.kids v)(hcn:count F≤1000000)(hL0:LaidW w.heap.size w):Ret PP 13 #[ndV F v] w (RChk F w) :=
 (Zpe F v D w hkD hcn hL0).ret fun _ _ h=>h
theorem Ytc(F:Nd)(v:Ga)(D:Nat→Prop)(w:Aa){m0:Nat}(Z:List Nat)(hkD:Kd w D F.kids v)(hcn:count F≤1000000)(hL0:LaidW w.heap.size w)(hZ:∀ j∈Z,j<w.heap.size)(hm:m0≤w.heap.size) :
 Ret PP 13 #[ndV F v] w fun r w'=>(∃ p c,r = .tuple #[ndV (refCheck F).1 (.slice p (refCheck F).1.kids.length c),.int .i64 (refCheck F).2.1,.int .i64 (refCheck F).2.2]∧m0≤w.heap.size∧KdX w.heap.size Z w' (refCheck F).1.kids (.slice p (refCheck F).1.kids.length c))∧G w w' :=
 (Uxe F v D w hkD hcn hL0).mono fun r w' hr=>by
 obtain ⟨⟨u,rfl,p,c,e,k⟩,g⟩:=hr;exact ⟨⟨p,c,by rw [e],hm,KdN.x k hZ⟩,g⟩
theorem LaidW.top{n0:Nat}{w:Aa}(h:LaidW n0 w):LaidW w.heap.size w:=⟨h.hL,h.hT,h.hC,Aha h.hG h.hn,Afa _⟩
theorem LaidW.mk'{w:Aa}(h:Laid w)(hT:LaidT w)(hC:Zxf w)(hb:10≤w.heap.size):LaidW w.heap.size w:=⟨h,hT,hC,hb,Afa _⟩
inductive A0 where
   | i (k:IntKind) (x:Int)|s (l:List UInt8)|b (x:Bool)|n|p (k o:Nat)|e|r (k m:Nat)|f (g:Nat)
 deriving DecidableEq
inductive A1 where
   | c (a:A0)|g (l:List A0)
 deriving DecidableEq
inductive AV where
   | v (a:A1)|t (l:List A1)|u
 deriving DecidableEq
structure AB where
   e:Nat
   q:Option (Nat×Nat)
   l:List A0
 deriving DecidableEq
structure Rv where
  b:Nat
  c:Nat
  h:Option Obj
section
variable (ρ:Nat→Rv)
def v0:A0→Ga
 | .i k x=>.int k x
 | .s l=>Str l
 | .b x=>.bool x
 | .n=>.pointer none
 | .p k o=>.pointer (some ⟨(ρ k).b,o,none⟩)
 | .e=>.slice none 0 0
 | .r k m=>.slice (some ⟨(ρ k).b,0,none⟩) m (ρ k).c
 | .f g=>.func (.func g) #[] #[]
def v1:A1→Ga
 | .c a=>v0 ρ a
 | .g l=>.agg (l.map (v0 ρ)).toArray
def vA:AV→Ga
 | .v a=>v1 ρ a
 | .t l=>.tuple (l.map (v1 ρ)).toArray
 | .u=>undef
def e1:AV→Prop×Ga
 | .u=>(False,.bool false)
 | a=>(True,vA ρ a)
end
def cA:A1→List A0
 | .c a=>[a]
 | .g l=>l
theorem Wlb(ρ:Nat→Rv)(a:A1):(v1 ρ a).cells=((cA a).map (v0 ρ)).toArray:=by
 cases a with
 | c a=>cases a <;> rfl
 | g l=>rfl
theorem Xdg(ρ:Nat→Rv)(a:A0):(v0 ρ a).oneCell'=true:=by cases a <;> rfl
theorem Xue(ρ:Nat→Rv)(l:List A0):onesB (l.map (v0 ρ))=true:=by
 unfold onesB;rw [Aca];intro u hu;obtain ⟨a,_,rfl⟩:=List.mem_map.1 hu;exact Xdg ρ a
/-! tables -/
def lk{α:Type}:List (Nat×α)→Nat→Option α
 | [],_=>none
 | (k,v)::r,t=>bif Aba k t then some v else lk r t
def ins{α:Type}(t:Nat)(v:α):List (Nat×α)→List (Nat×α)
 | []=>[(t,v)]
 | (k,x)::r=>bif Aba k t then (t,v)::r else bif Aaa k t then (t,v)::(k,x)::r else (k,x)::ins t v r
def del{α:Type}(t:Nat)(l:List (Nat×α)):List (Nat×α):=l.filter fun x=>!Aba x.1 t
theorem Vja{a b:Nat}(h:a≠b):Aba a b=false:=by
 cases hb:Aba a b with
 | false=>rfl
 | true=>exact absurd (Ala hb) h
theorem Yhb{α:Type}(t:Nat)(v:α)(u:Nat):∀ (l:List (Nat×α)),lk (ins t v l) u=bif Aba t u then some v else lk l u
 | []=>rfl
 | (k,x)::r=>by
  unfold ins;by_cases h:k=t;subst h;rw [Ama,Wug];unfold lk;cases Aba k u <;> rfl
  rw [Vja h,Wtg]
  cases Aaa k t with
  | true=>rw [Wug];rfl
  | false =>
   rw [Wtg];unfold lk;rw [Yhb t v u r];by_cases hk:k=u;subst hk;rw [Ama,Wug,Vja (fun e=>h e.symm)];rfl;rw [Vja hk,Wtg,Wtg]
theorem Zqe{α:Type}(t u:Nat):∀ (l:List (Nat×α)),lk (del t l) u=bif Aba t u then none else lk l u
 | []=>by unfold del lk;cases Aba t u <;> rfl
 | (k,x)::r=>by
  have ih:=Zqe t u r;unfold del at ih ⊢;rw [List.filter_cons];by_cases h:k=t;subst h;rw [if_neg Os,ih];show _=bif Aba k u then none else bif Aba k u then some x else lk r u;cases Aba k u <;> rfl
  rw [if_pos (by simp [Vja h])];show (bif Aba k u then some x else lk (List.filter (fun x=>!Aba x.1 t) r) u)=bif Aba t u then none else bif Aba k u then some x else lk r u;rw [ih];by_cases hk:k=u;subst hk;rw [Ama,Wug,Vja (fun e=>h e.symm)];rfl;rw [Vja hk,Wtg];cases Aba t u <;> rfl
abbrev Sg:=List (Nat×AV)
def ent(ρ:Nat→Rv)(σ:Sg):List Ent:=σ.map fun x=>(x.1,e1 ρ x.2)
theorem Qma(ρ:Nat→Rv)(t:Nat):∀ (σ:Sg),look (ent ρ σ) t=(lk σ t).map (e1 ρ)
 | []=>rfl
 | (k,x)::r=>by
  have ih:=Qma ρ t r;unfold ent at ih ⊢;rw [Aqa];unfold look lk;rw [ih];cases Aba k t <;> rfl
theorem Jyc{ρ ρ':Nat→Rv}{σ:Sg}{n d:Nat}{v:AV}{a:Act}{c:Prop}{u:Ga}(hσ:∀ t x,lk σ t=some x→e1 ρ' x=e1 ρ x)(hv:e1 ρ' v=(c,u))(h:Kn n ((d,c,u)::ent ρ σ) a):Kn n (ent ρ' (ins d v σ)) a:=by
 refine h.sub fun t c' x hl=>?_;rw [Qma,Yhb] at hl;unfold look
 cases hb:Aba d t with
 | true=>rw [hb,Wug] at hl;rw [Wug];rw [Bja,hv] at hl;exact hl
 | false =>
  rw [hb,Wtg] at hl;rw [Wtg,Qma]
  cases hq:lk σ t with
  | none=>rw [hq] at hl;cases hl
  | some y=>rw [hq,Bja,hσ t y hq] at hl;rw [Bja];exact hl
theorem Xrd{ρ:Nat→Rv}{σ:Sg}{n d:Nat}{v:AV}{a:Act}(hd:Aaa d n=true)(h:Kn n (ent ρ σ) a):Kn n (ent ρ (ins d v σ)) (a.put (some d) (vA ρ v)):=by
 refine Jyc (fun _ _ _=>J) J (h.put hd (c:=(e1 ρ v).1) (v:=(e1 ρ v).2) (fun hc=>?_) (fun hc=>?_));cases v <;> first|rfl|exact hc.elim
 cases v <;> first|rfl|exact absurd trivial hc
/-! operands -/
def ofV0:Ga→Option A0
 | .int k x=>some (.i k x)
 | .bool x=>some (.b x)
 | .string s=>some (.s s.data.toList)
 | .pointer none=>some .n
 | .slice none 0 0=>some .e
 | _=>none
def allO{α β:Type}(f:α→Option β):List α→Option (List β)
 | []=>some []
 | x::r=>match f x,allO f r with
  | some y,some l=>some (y::l)
  | _,_=>none
theorem Ujd{α β:Type}{f:α→Option β}{g:β→α}(hf:∀ x y,f x=some y→g y=x):∀ {l:List α} {r:List β},allO f l=some r→r.map g=l
 | [],r,h=>by injection h with h;subst h;rfl
 | x::l,r,h=>by
  unfold allO at h;split at h;rename_i y l' h1 h2;injection h with h;subst h;rw [Aqa,hf _ _ h1,Ujd hf h2];cases h
def ofV:Ga→Option A1
 | .agg cs=>(allO ofV0 cs.toList).map .g
 | v=>(ofV0 v).map .c
theorem Xve{ρ:Nat→Rv}{v:Ga}{a:A0}(h:ofV0 v=some a):v0 ρ a=v:=by
 unfold ofV0 at h;split at h <;> first|cases h;rfl|cases h
theorem Zre{ρ:Nat→Rv}{v:Ga}{a:A1}(h:ofV v=some a):v1 ρ a=v:=by
 unfold ofV at h;split at h;rename_i cs;obtain ⟨l,h1,rfl⟩:=Ada.1 h;have:=Ujd (g:=v0 ρ) (fun x y=>Xve) h1;show Value.agg (l.map (v0 ρ)).toArray=_;rw [this];obtain ⟨l,h1,rfl⟩:=Ada.1 h;exact Xve h1
def oA(σ:Sg):Ea→Option AV
 | .tmp t=>match lk σ t with
  | some .u=>none
  | x=>x
 | .const v=>(ofV v).map .v
 | .func g=>some (.v (.c (.f g)))
 | .global _=>none
theorem Zcg{ρ:Nat→Rv}{σ:Sg}{x:Ea}{v:AV}(h:oA σ x=some v):opv (ent ρ σ) x=some (True,vA ρ v):=by
 cases x with
 | tmp t =>
  have h:(match lk σ t with|some .u=>none|x=>x)=some v:=h;show look (ent ρ σ) t=_;rw [Qma];split at h;cases h;rename_i hn;rw [h]
  cases v with
  | u=>exact (hn h).elim
  | v a=>rfl
  | t l=>rfl
 | const c =>
  unfold oA at h;obtain ⟨a,h1,rfl⟩:=Ada.1 h;show some (True,c)=some (True,v1 ρ a);rw [Zre h1]
 | global g=>cases h
 | func g=>injection h with h;subst h;rfl
section
variable {ρ:Nat→Rv} {σ:Sg} {n:Nat} {c:Prop} {x:Ea}
theorem oE{v:AV}(h:oA σ x=some v):Ev n (ent ρ σ) c x (vA ρ v):=Jp (Zcg h)
end
def bI(op:BinOp)(k:IntKind)(a b:Int):Option A0:=match op with
 | .add=>some (.i k (k.wrap (a+b)))
 | .sub=>some (.i k (k.wrap (a-b)))
 | .mul=>some (.i k (k.wrap (a*b)))
 | .eql=>some (.b (decide (a=b)))
 | .neq=>some (.b (!decide (a=b)))
 | .lss=>some (.b (decide (a<b)))
 | .leq=>some (.b (decide (a≤b)))
 | .gtr=>some (.b (decide (b<a)))
 | .geq=>some (.b (decide (b≤a)))
 | _=>none
def bS(op:BinOp)(a b:List UInt8):Option A0:=match op with
 | .eql=>some (.b (decide (a=b)))
 | .neq=>some (.b (!decide (a=b)))
 | _=>none
def a0(a:Option AV):Option A0:=match a with
 | some (.v (.c x))=>some x
 | _=>none
theorem Zdg{a:Option AV}{x:A0}(h:a0 a=some x):a=some (.v (.c x)):=by
 unfold a0 at h;split at h;injection h with h;subst h;rfl;cases h
def sS(l:List UInt8):Option A0→Option A0→Option A0
 | some (.i _ i),some (.i _ j)=>if 0≤i∧i≤j∧j≤l.length then some (.s ((l.drop i.toNat).take (j.toNat-i.toNat))) else none
 | _,_=>none
def Umc(σ:Sg):List (Nat×Ea)→Option (List (Nat×A1))
 | []=>some []
 | (i,x)::r=>match oA σ x,Umc σ r with
  | some (.v a),some l=>some ((i,a)::l)
  | _,_=>none
def fillA(pl:Nat→Option (Nat×Nat)):List A0→List (Nat×A1)→Option (List A0)
 | cs,[]=>some cs
 | cs,(i,v)::rest=>match pl i with
  | none=>none
  | some (off,z)=>if Aba (cA v).length z&&Ana (off+z) cs.length then fillA pl (cs.take off++cA v++cs.drop (off+z)) rest else none
def pA(P:Fa)(σ:Sg):Op→Option AV
 | .move x=>oA σ x
 | .assign x=>oA σ x
 | .nilCheck x=>match a0 (oA σ x) with
  | some (.p k o)=>some (.v (.c (.p k o)))
  | _=>none
 | .pick c a b=>match a0 (oA σ c) with
  | some (.b q)=>oA σ (bif q then a else b)
  | _=>none
 | .unOp .not _ x=>match a0 (oA σ x) with
  | some (.b q)=>some (.v (.c (.b (!q))))
  | _=>none
 | .binOp op _ x y _=>match a0 (oA σ x),a0 (oA σ y) with
  | some (.i k a),some (.i q b)=>if k=q then (bI op k a b).map fun z=>.v (.c z) else none
  | some (.s a),some (.s b)=>(bS op a b).map fun z=>.v (.c z)
  | _,_=>none
 | .slice t x (some y) (some z) none=>match a0 (oA σ x) with
  | some (.s l)=>bif Vka P t then (sS l (a0 (oA σ y)) (a0 (oA σ z))).map fun z=>.v (.c z) else none
  | _=>none
 | .slice t x (some y) none none=>match a0 (oA σ x),a0 (oA σ y) with
  | some (.s l),some (.i _ i)=>if Vka P t=true∧0≤i∧i≤l.length then some (.v (.c (.s (l.drop i.toNat)))) else none
  | _,_=>none
 | .slice t x none (some z) none=>match a0 (oA σ x),a0 (oA σ z) with
  | some (.s l),some (.i _ j)=>if Vka P t=true∧0≤j∧j≤l.length then some (.v (.c (.s (l.take j.toNat)))) else none
  | _,_=>none
 | .fieldAddr s x j=>match Yp P s j,a0 (oA σ x) with
  | some d,some (.p k o)=>some (.v (.c (.p k (o+d))))
  | _,_=>none
 | .field s x j=>match Qib P s j,oA σ x with
  | some (off,none),some (.v (.g l))=>(l[off]?).map fun a=>.v (.c a)
  | some (off,some z),some (.v (.g l))=>some (.v (.g ((l.drop off).take z)))
  | _,_=>none
 | .indexAddr t x y=>match tyElem P t,a0 (oA σ x),a0 (oA σ y) with
  | some (_,z,_),some (.r k m),some (.i _ j)=>if 0≤j∧j<m then some (.v (.c (.p k (0+j.toNat*z)))) else none
  | _,_,_=>none
 | .index t x y=>match a0 (oA σ x),a0 (oA σ y) with
  | some (.s l),some (.i _ i)=>if Vka P t=true∧0≤i∧i<l.length then some (.v (.c (.i .u8 (l.getD i.toNat 0).toNat))) else none
  | _,_=>none
 | .extract x i=>match oA σ x with
  | some (.t l)=>(l[i]?).map .v
  | _=>none
 | .build t ps=>match zeroOf P t,Wh P t,Umc σ ps.toList with
  | some z,some pl,some vs=>match ofV z with
   | some (.g zl)=>(fillA (fun i=>pl[i]?) zl vs).map fun l=>.v (.g l)
   | _=>none
  | _,_,_=>none
 | .call ⟨.builtin .len,⟨[x]⟩,⟨[t]⟩⟩=>match a0 (oA σ x) with
  | some (.s l)=>bif Vka P t then some (.v (.c (.i .i64 l.length))) else none
  | some (.r _ m)=>match tyElem P t with
   | some _=>some (.v (.c (.i .i64 m)))
   | none=>none
  | some .e=>match tyElem P t with
   | some _=>some (.v (.c (.i .i64 0)))
   | none=>none
  | _=>none
 | .call ⟨.builtin .max,⟨[x,y]⟩,_⟩=>match a0 (oA σ x),a0 (oA σ y) with
  | some (.i k a),some (.i _ b)=>some (.v (.c (.i k (if b>a then b else a))))
  | _,_=>none
 | _=>none
section
variable {P:Fa} {ρ:Nat→Rv} {σ:Sg} {n:Nat} {c:Prop} {wb:Aa} {ty:Ba}
theorem oC{x:Ea}{a:A0}(h:a0 (oA σ x)=some a):Ev n (ent ρ σ) c x (v0 ρ a):=oE (Zdg h)
theorem Wbf{x a b:Ea}{q:Bool}{v:Ga}(h:Ev n (ent ρ σ) c x (.bool q))(h1:Ev n (ent ρ σ) c (bif q then a else b) v):Rd P n (ent ρ σ) c wb (.pick x a b) ty v:=.mk fun d pos after gd f hf hc w1 _=>by
 cases q with
 | false=>rw [Wtg] at h1;simp [execOp,h f hf hc,asBool,h1 f hf hc]
 | true=>rw [Wug] at h1;simp [execOp,h f hf hc,asBool,h1 f hf hc]
theorem Unc:∀ {ps:List (Nat×Ea)} {vs:List (Nat×A1)},Umc σ ps=some vs→Xda n (ent ρ σ) c ps.toArray (vs.map fun x=>(x.1,v1 ρ x.2))
 | [],vs,h=>by injection h with h;subst h;exact Vj
 | (i,x)::r,vs,h=>by
  unfold Umc at h;split at h;rename_i a l h1 h2;injection h with h;subst h;exact Wi (oE h1) (Unc h2);cases h
theorem Ukd(ρ:Nat→Rv)(pl:Nat→Option (Nat×Nat)):∀ (vs:List (Nat×A1)) (cs l:List A0),fillA pl cs vs=some l→Vsb pl (cs.map (v0 ρ)) (vs.map fun x=>(x.1,v1 ρ x.2))=some (l.map (v0 ρ))
 | [],cs,l,h=>by injection h with h;subst h;rfl
 | (i,v)::rest,cs,l,h=>by
  unfold fillA at h;rw [Aqa];unfold Vsb;dsimp only;split at h;cases h;rename_i off z hp;simp only [hp];have hc:(v1 ρ v).cells.toList=(cA v).map (v0 ρ):=by rw [Wlb]
  rw [hc];split at h;rename_i hq;rw [if_pos (by simpa using hq)];have:=Ukd ρ pl rest _ l h;simpa using this;cases h
theorem bI_ok{op:BinOp}{t u:Ba}{x y:Ea}{k:IntKind}{a b:Int}{z:A0}(h:bI op k a b=some z)(hx:Ev n (ent ρ σ) c x (.int k a))(hy:Ev n (ent ρ σ) c y (.int k b)):Rd P n (ent ρ σ) c wb (.binOp op t x y u) ty (v0 ρ z):=by
 unfold bI at h;split at h <;> cases h
 exact Wxf hx hy;exact Ybe hx hy;exact Wyf hx hy;exact Zoa hx hy;exact Yka hx hy;exact Qkc hx hy;exact Qle hx hy;exact Qlc hx hy;exact Qmc hx hy
theorem bS_ok{op:BinOp}{t u:Ba}{x y:Ea}{a b:List UInt8}{z:A0}(h:bS op a b=some z)(hx:Ev n (ent ρ σ) c x (Str a))(hy:Ev n (ent ρ σ) c y (Str b)):Rd P n (ent ρ σ) c wb (.binOp op t x y u) ty (v0 ρ z):=by
 unfold bS at h;split at h <;> cases h
 exact Ulb hx hy;exact Wgc hx hy
theorem Zeg{op:Op}{v:AV}(h:pA P σ op=some v):Rd P n (ent ρ σ) c wb op ty (vA ρ v):=by
 unfold pA at h;split at h;exact Zw (oE h);exact Jc (oE h);split at h <;> cases h
 rename_i h1;exact Zna (oC h1);split at h;rename_i h1;exact Wbf (oC h1) (oE h);cases h;split at h <;> cases h
 rename_i h1;exact Yvb (oC h1);split at h;rename_i h1 h2;split at h;rename_i hk;subst hk;obtain ⟨z,h3,rfl⟩:=Ada.1 h;exact bI_ok h3 (oC h1) (oC h2);cases h;rename_i h1 h2;obtain ⟨z,h3,rfl⟩:=Ada.1 h;exact bS_ok h3 (oC h1) (oC h2);cases h;split at h;rename_i h1
 cases ht:Vka P _ with
 | false=>rw [ht] at h;cases h
 | true =>
  rw [ht,Wug] at h;obtain ⟨z,h3,rfl⟩:=Ada.1 h;unfold sS at h3;split at h3;rename_i h4 h5;split at h3;rename_i hr;injection h3 with h3;subst h3;exact Zdc ht (oC h1) (oC h4) (oC h5) fun _=>hr;cases h3;cases h3
 cases h;split at h;rename_i h1 h2;split at h;rename_i hr;injection h with h;subst h;exact Ywb hr.1 (oC h1) (oC h2) fun _=>hr.2;cases h;cases h;split at h;rename_i h1 h2;split at h;rename_i hr;injection h with h;subst h;exact Zec hr.1 (oC h1) (oC h2) fun _=>hr.2;cases h;cases h;split at h;rename_i h1 h2;injection h with h;subst h;exact Zi h1 (oC h2);cases h;split at h;rename_i h1 h2;obtain ⟨a,h3,rfl⟩:=Ada.1 h;exact Qje h1 (oE h2) (by simp [h3];rfl);rename_i h1 h2;injection h with h;subst h;exact Qke (l:=_) h1 (oE h2) Os;cases h;split at h;rename_i h1 h2 h3;split at h;rename_i hr;injection h with h;subst h;exact Xta h1 (oC h2) (oC h3) fun _=>hr;cases h;cases h;split at h;rename_i h1 h2;split at h;rename_i hr;injection h with h;subst h;exact Qsa hr.1 (oC h1) (oC h2) fun _=>hr.2;cases h;cases h;split at h;rename_i h1;obtain ⟨a,h3,rfl⟩:=Ada.1 h;exact Uta (oE h1) (by simp [h3];rfl);cases h;split at h;rename_i h1 h2 h3;split at h;rename_i h4;obtain ⟨l,h5,rfl⟩:=Ada.1 h;have hz:=Zre (ρ:=ρ) h4;exact Uv _ h1 (by rw [← hz];rfl) h2 (by simpa using Unc h3) (Ukd ρ _ _ _ _ h5);cases h;cases h;split at h;rename_i h1
 cases ht:Vka P _ with
 | false=>rw [ht] at h;cases h
 | true=>rw [ht,Wug] at h;injection h with h;subst h;exact Qjb ht (oC h1)
 rename_i h1;split at h <;> cases h
 rename_i h2;exact Ysa h2 (oC h1);rename_i h1;split at h <;> cases h
 rename_i h2;exact Ysa h2 (oC h1);cases h;split at h;rename_i h1 h2;injection h with h;subst h;exact Zef (oC h1) (oC h2);cases h;cases h
end
structure Am where
   nx:Nat
   m:List (Nat×AB)
 deriving DecidableEq
def us0(p:Nat→Bool):A0→Bool
 | .p k _=>p k
 | .r k _=>p k
 | _=>true
def us1(p:Nat→Bool):A1→Bool
 | .c a=>us0 p a
 | .g l=>l.all (us0 p)
def usV(p:Nat→Bool):AV→Bool
 | .v a=>us1 p a
 | .t l=>l.all (us1 p)
 | .u=>true
section
variable {ρ ρ':Nat→Rv} {p:Nat→Bool}
theorem Wcf(h:∀ k,p k=true→ρ' k = ρ k){a:A0}(ha:us0 p a=true):v0 ρ' a=v0 ρ a:=by
 cases a with
 | p k o=>show Value.pointer (some ⟨(ρ' k).b,o,none⟩)=_;rw [h k ha];rfl
 | r k m=>show Ia (some ⟨(ρ' k).b,0,none⟩) m (ρ' k).c=_;rw [h k ha];rfl
 | _=>rfl
theorem Uoc(h:∀ k,p k=true→ρ' k = ρ k){l:List A0}(ha:l.all (us0 p)=true):l.map (v0 ρ')=l.map (v0 ρ) :=
 Bka fun a hm=>Wcf h (Aca.1 ha a hm)
theorem Wdf(h:∀ k,p k=true→ρ' k = ρ k){a:A1}(ha:us1 p a=true):v1 ρ' a=v1 ρ a:=by
 cases a with
 | c a=>exact Wcf h ha
 | g l=>show Value.agg _=Value.agg _;rw [Uoc h ha]
theorem Xeg(h:∀ k,p k=true→ρ' k = ρ k){a:AV}(ha:usV p a=true):e1 ρ' a=e1 ρ a:=by
 cases a with
 | v a=>show (True,v1 ρ' a)=(True,v1 ρ a);rw [Wdf h ha]
 | t l=>show (True,Value.tuple _)=(True,Value.tuple _);rw [Bka fun a hm=>Wdf h (Aca.1 ha a hm)]
 | u=>rfl
theorem Zmb{q:Nat→Bool}(h:∀ k,p k=true→q k=true){a:A0}(ha:us0 p a=true):us0 q a=true:=by
 cases a <;> first|rfl|exact h _ ha
theorem Uld{q:Nat→Bool}(h:∀ k,p k=true→q k=true){a:A1}(ha:us1 p a=true):us1 q a=true:=by
 cases a with
 | c a=>exact Zmb h ha
 | g l=>exact Aca.2 fun a hm=>Zmb h (Aca.1 ha a hm)
theorem Umd{q:Nat→Bool}(h:∀ k,p k=true→q k=true){a:AV}(ha:usV p a=true):usV q a=true:=by
 cases a with
 | v a=>exact Uld h ha
 | t l=>exact Aca.2 fun a hm=>Uld h (Aca.1 ha a hm)
 | u=>rfl
end
def AbOk(N0:Nat)(ρ:Nat→Rv)(w:Aa)(k:Nat)(B:AB):Prop :=
 N0≤(ρ k).b∧match B.q with
 | none=>Blk w (ρ k).b B.e (B.l.map (v0 ρ))
 | some (z,m)=>w.ownsRow N0 B.e z (.slice (some ⟨(ρ k).b,0,none⟩) m (ρ k).c) m (B.l.map (v0 ρ))∧w.heap[(ρ k).b]? = (ρ k).h
theorem Uye{w w':Aa}{N0 e z b m c:Nat}{xs:List Ga}(h:w.ownsRow N0 e z (.slice (some ⟨b,0,none⟩) m c) m xs)(hh:w'.heap[b]? = w.heap[b]?):w'.ownsRow N0 e z (.slice (some ⟨b,0,none⟩) m c) m xs:=by
 refine ⟨h.1,?_⟩;rcases h.2 with ⟨h1,_⟩|⟨g,cap,cur,h1,h2,h3,h4⟩;cases h1;injection h1 with h1 _ hc;injection h1 with h1;injection h1 with h1 _ _;subst h1 hc;exact .inr ⟨b,c,cur,rfl,h2,hh.trans h3,h4⟩
theorem Jbf{w:Aa}{N0 e z b m c:Nat}{xs:List Ga}(h:w.ownsRow N0 e z (.slice (some ⟨b,0,none⟩) m c) m xs):b<w.heap.size:=by
 rcases h.2 with ⟨h1,_⟩|⟨g,cap,cur,h1,h2,h3,h4⟩;cases h1;injection h1 with h1 _ _;injection h1 with h1;injection h1 with h1 _ _;subst h1;exact (Array.getElem?_eq_some_iff.1 h3).1
theorem Wef{w:Aa}{N0 e z b m c:Nat}{xs:List Ga}(h:w.ownsRow N0 e z (.slice (some ⟨b,0,none⟩) m c) m xs):RowAt w b 0 xs:=by
 rcases h.2 with ⟨h1,_⟩|⟨g,cap,cur,h1,h2,h3,_,_,h5,h6⟩;cases h1;injection h1 with h1 _ _;injection h1 with h1;injection h1 with h1 _ _;subst h1;intro j v hj;rw [← h6,Bsa] at hj;split at hj;simp [World.cell?,h3];simpa using hj;cases hj
section
variable {N0:Nat} {ρ ρ':Nat→Rv} {w w':Aa} {k:Nat} {B:AB}
theorem AbOk.heap(h:AbOk N0 ρ w k B)(hh:w'.heap[(ρ k).b]? = w.heap[(ρ k).b]?):AbOk N0 ρ w' k B:=by
 obtain ⟨e,q,l⟩:=B
 cases q with
 | none=>exact ⟨h.1,hh.trans h.2⟩
 | some q=>exact ⟨h.1,Uye h.2.1 hh,hh.trans h.2.2⟩
theorem AbOk.lt(h:AbOk N0 ρ w k B):(ρ k).b<w.heap.size:=by
 obtain ⟨e,q,l⟩:=B
 cases q with
 | none=>exact Blk.lt h.2
 | some q=>exact Jbf h.2.1
theorem AbOk.row(h:AbOk N0 ρ w k B):RowAt w (ρ k).b 0 (B.l.map (v0 ρ)):=by
 obtain ⟨e,q,l⟩:=B
 cases q with
 | none=>exact Blk.row h.2
 | some q=>exact Wef h.2.1
theorem AbOk.to(h:AbOk N0 ρ w k B)(hk:ρ' k = ρ k)(hl:B.l.map (v0 ρ')=B.l.map (v0 ρ)):AbOk N0 ρ' w k B:=by
 obtain ⟨e,q,l⟩:=B;unfold AbOk at h ⊢;dsimp only at hl h ⊢;rw [hk,hl];exact h
theorem AbOk.same(h:AbOk N0 ρ w k B)(h':AbOk N0 ρ' w' k B)(hk:ρ' k = ρ k)(hl:B.l.map (v0 ρ')=B.l.map (v0 ρ)):w'.heap[(ρ k).b]? = w.heap[(ρ k).b]?:=by
 obtain ⟨e,q,l⟩:=B
 cases q with
 | none =>
  have h1:w.heap[(ρ k).b]? = _:=h.2;have h2:w'.heap[(ρ' k).b]? = _:=h'.2;dsimp only at h1 h2 hl;rw [hk,hl] at h2;rw [h1,h2]
 | some q =>
  have h1:=h.2.2;have h2:=h'.2.2;rw [hk] at h2;rw [h1,h2]
end
structure Inv (w0:Aa) (ρ:Nat→Rv) (s:Am) (w:Aa):Prop where
  g:G w0 w
  ok:∀ k B,lk s.m k=some B→AbOk w0.heap.size ρ w k B
  wf:∀ k B,lk s.m k=some B→Aaa k s.nx=true∧B.l.all (us0 fun j=>Aaa j s.nx)=true
  ne:∀ k k' B B',lk s.m k=some B→lk s.m k'=some B'→k≠k'→(ρ k).b≠(ρ k').b
def Ws(σ:Sg)(n:Nat):Prop:=∀ t x,lk σ t=some x→usV (fun j=>Aaa j n) x=true
structure Fre (id:Nat) (σ:Sg) (m:List (Nat×AB)):Prop where
  s:∀ t x,lk σ t=some x→usV (fun j=>!Aba j id) x=true
  m:∀ k B,lk m k=some B→Aba k id=false∧B.l.all (us0 fun j=>!Aba j id)=true
def Agr1(n id:Nat)(ρ ρ':Nat→Rv):Prop:=∀ k,(Aaa k n && !Aba k id)=true→ρ' k = ρ k
theorem Xwe{p q:Nat→Bool}{a:A0}(h:us0 p a=true)(h':us0 q a=true):us0 (fun j=>p j&&q j) a=true:=by
 cases a <;> first|rfl|exact Aga.2 ⟨h,h'⟩
theorem Xsd{p q:Nat→Bool}{l:List A0}(h:l.all (us0 p)=true)(h':l.all (us0 q)=true):l.all (us0 fun j=>p j&&q j)=true :=
 Aca.2 fun a hm=>Xwe (Aca.1 h a hm) (Aca.1 h' a hm)
theorem Xxe{p q:Nat→Bool}{a:A1}(h:us1 p a=true)(h':us1 q a=true):us1 (fun j=>p j&&q j) a=true:=by
 cases a with
 | c a=>exact Xwe h h'
 | g l=>exact Xsd h h'
theorem Jcf{p q:Nat→Bool}{a:AV}(h:usV p a=true)(h':usV q a=true):usV (fun j=>p j&&q j) a=true:=by
 cases a with
 | v a=>exact Xxe h h'
 | t l=>exact Aca.2 fun a hm=>Xxe (Aca.1 h a hm) (Aca.1 h' a hm)
 | u=>rfl
section
variable {w0 w w':Aa} {ρ ρ':Nat→Rv} {s:Am} {σ:Sg} {id:Nat}
theorem Ws.to(hw:Ws σ s.nx)(hf:Fre id σ s.m)(h:Agr1 s.nx id ρ ρ'):∀ t x,lk σ t=some x→e1 ρ' x=e1 ρ x:=fun t x hl=>Xeg h (Jcf (hw t x hl) (hf.s t x hl))
theorem Inv.lt(hi:Inv w0 ρ s w){k:Nat}{B:AB}(hl:lk s.m k=some B):(ρ k).b<w.heap.size:=(hi.ok k B hl).lt
theorem Inv.at'(hi:Inv w0 ρ s w)(hf:Fre id σ s.m)(h:Agr1 s.nx id ρ ρ'){k:Nat}{B:AB}(hl:lk s.m k=some B):ρ' k = ρ k∧B.l.map (v0 ρ')=B.l.map (v0 ρ) :=
 ⟨h k (by rw [(hi.wf k B hl).1,(hf.m k B hl).1];rfl),Uoc h (Xsd (hi.wf k B hl).2 (hf.m k B hl).2)⟩
def upd(ρ:Nat→Rv)(id:Nat)(x:Rv)(k:Nat):Rv:=bif Aba k id then x else ρ k
theorem Zse(ρ:Nat→Rv)(id:Nat)(x:Rv):upd ρ id x id=x:=by unfold upd;rw [Ama];rfl
theorem Wbc(ρ:Nat→Rv)(n id:Nat)(x:Rv):Agr1 n id ρ (upd ρ id x):=fun k h=>by
 unfold upd
 cases hb:Aba k id with
 | true=>rw [hb] at h;simp at h
 | false=>rfl
theorem Inv.new(hi:Inv w0 ρ s w)(hf:Fre id σ s.m)(hid:Aaa id s.nx=true){b e c:Nat}{h:Option Obj}{l:List A0}(N:New w w' b e (l.map (v0 ρ)))(hl:l.all (us0 fun j=>Aaa j s.nx && !Aba j id)=true) :
 Inv w0 (upd ρ id ⟨b,c,h⟩) ⟨s.nx,ins id ⟨e,none,l⟩ s.m⟩ w':=by
 have hA:=Wbc ρ s.nx id ⟨b,c,h⟩;have hu:=Zse ρ id ⟨b,c,h⟩;have hlr:=Uoc hA hl;have hat:=N.at_;have hg:=hi.g.size
 have nw:∀ k B,lk (ins id (⟨e,none,l⟩:AB) s.m) k=some B→k≠id→lk s.m k=some B:=fun k B hk hne=>by
  rw [Yhb,Vja (fun e=>hne e.symm)] at hk;exact hk
 have new:∀ B,lk (ins id (⟨e,none,l⟩:AB) s.m) id=some B→B=⟨e,none,l⟩:=fun B hk=>by
  rw [Yhb,Ama] at hk;injection hk with hk;exact hk.symm
 refine ⟨hi.g.trans N.g,fun k B hk=>?_,fun k B hk=>?_,fun k k' B B' hk hk' hne=>?_⟩;by_cases hq:k=id;subst hq;rw [new B hk];refine ⟨by rw [hu];show w0.heap.size≤b;omega,?_⟩;show Blk w' (upd ρ k ⟨b,c,h⟩ k).b e (l.map (v0 (upd ρ k ⟨b,c,h⟩)));rw [hu,hlr];exact N.blk;have hk:=nw k B hk hq;obtain ⟨h1,h2⟩:=hi.at' hf hA hk;exact ((hi.ok k B hk).heap (N.g.block (hi.lt hk))).to h1 h2;by_cases hq:k=id;subst hq;rw [new B hk];exact ⟨hid,Aca.2 fun a hm=>Zmb (fun j hj=>(Aga.1 hj).1) (Aca.1 hl a hm)⟩;exact hi.wf k B (nw k B hk hq);by_cases hq:k=id;subst hq;have hk':=nw k' B' hk' (fun e=>hne e.symm);rw [hu,(hi.at' hf hA hk').1];have:=hi.lt hk';show b≠_;omega;have hk0:=nw k B hk hq;rw [(hi.at' hf hA hk0).1];by_cases hq':k'=id;subst hq';rw [hu];have:=hi.lt hk0;show _≠b;omega;have hk':=nw k' B' hk' hq';rw [(hi.at' hf hA hk').1];exact hi.ne k k' B B' hk0 hk' hne
theorem Inv.set(hi:Inv w0 ρ s w){k e:Nat}{l l':List A0}(hk:lk s.m k=some ⟨e,none,l⟩)(hg:w.grownBy w' (some (ρ k).b))(hB:Blk w' (ρ k).b e (l'.map (v0 ρ)))(hl:l'.all (us0 fun j=>Aaa j s.nx)=true) :
 Inv w0 ρ ⟨s.nx,ins k ⟨e,none,l'⟩ s.m⟩ w':=by
 have h0:=(hi.ok k _ hk).1
 have nw:∀ j B,lk (ins k (⟨e,none,l'⟩:AB) s.m) j=some B→j≠k→lk s.m j=some B:=fun j B hj hne=>by
  rw [Yhb,Vja (fun e=>hne e.symm)] at hj;exact hj
 have new:∀ B,lk (ins k (⟨e,none,l'⟩:AB) s.m) k=some B→B=⟨e,none,l'⟩:=fun B hj=>by
  rw [Yhb,Ama] at hj;injection hj with hj;exact hj.symm
 have dom:∀ j B,lk (ins k (⟨e,none,l'⟩:AB) s.m) j=some B→∃ B,lk s.m j=some B:=fun j B hj=>by
  by_cases hq:j=k;subst hq;exact ⟨_,hk⟩;exact ⟨B,nw j B hj hq⟩
 refine ⟨Yu hi.g hg h0,fun j B hj=>?_,fun j B hj=>?_,fun j j' B B' hj hj' hne=>?_⟩;by_cases hq:j=k;subst hq;rw [new B hj];exact ⟨h0,hB⟩;have hj:=nw j B hj hq;exact (hi.ok j B hj).heap (hg.block _ (hi.lt hj) fun q=>by injection q with q;exact hi.ne j k B _ hj hk hq q);by_cases hq:j=k;subst hq;rw [new B hj];exact ⟨(hi.wf j _ hk).1,hl⟩;exact hi.wf j B (nw j B hj hq);obtain ⟨B,hj⟩:=dom j B hj;obtain ⟨B',hj'⟩:=dom j' B' hj';exact hi.ne j j' B B' hj hj' hne
theorem Inv.app(hi:Inv w0 ρ s w)(hf:Fre id σ s.m)(hid:Aaa id s.nx=true){m':List (Nat×AB)}(hm:∀ k B,lk m' k=some B→lk s.m k=some B){row:Option Nat}(hg:w.grownBy w' row)(hr:∀ k,row=some k→w0.heap.size≤k)
 (hrow:∀ k B,lk m' k=some B→some (ρ k).b≠row) {b e z m c:Nat} {l:List A0} (hO:w'.ownsRow w0.heap.size e z (.slice (some ⟨b,0,none⟩) m c) m (l.map (v0 ρ))) (hb:row=some b∨b=w.heap.size) (hl:l.all (us0 fun j=>Aaa j s.nx && !Aba j id)=true) :
 Inv w0 (upd ρ id ⟨b,c,w'.heap[b]?⟩) ⟨s.nx,ins id ⟨e,some (z,m),l⟩ m'⟩ w':=by
 have hA:=Wbc ρ s.nx id ⟨b,c,w'.heap[b]?⟩;have hu:=Zse ρ id ⟨b,c,w'.heap[b]?⟩;have hlr:=Uoc hA hl;have hgs:=hi.g.size
 have nw:∀ k B,lk (ins id (⟨e,some (z,m),l⟩:AB) m') k=some B→k≠id→lk m' k=some B:=fun k B hk hne=>by
  rw [Yhb,Vja (fun e=>hne e.symm)] at hk;exact hk
 have new:∀ B,lk (ins id (⟨e,some (z,m),l⟩:AB) m') id=some B→B=⟨e,some (z,m),l⟩:=fun B hk=>by
  rw [Yhb,Ama] at hk;injection hk with hk;exact hk.symm
 have far:∀ k B,lk m' k=some B→(ρ k).b≠b:=fun k B hk q=>by
  rcases hb with hb|hb;exact hrow k B hk (by rw [hb,q]);have:=hi.lt (hm k B hk);omega
 refine ⟨Below.grown hi.g hg hi.g.size hr,fun k B hk=>?_,fun k B hk=>?_,fun k k' B B' hk hk' hne=>?_⟩;by_cases hq:k=id;subst hq;rw [new B hk];refine ⟨?_,?_⟩;rw [hu];rcases hb with hb|hb;exact hr _ hb;show w0.heap.size≤b;omega;show w'.ownsRow w0.heap.size e z (.slice (some ⟨(upd ρ k ⟨b,c,w'.heap[b]?⟩ k).b,0,none⟩) m (upd ρ k ⟨b,c,w'.heap[b]?⟩ k).c) m (l.map (v0 (upd ρ k ⟨b,c,w'.heap[b]?⟩)))∧w'.heap[(upd ρ k ⟨b,c,w'.heap[b]?⟩ k).b]? = (upd ρ k ⟨b,c,w'.heap[b]?⟩ k).h;rw [hu,hlr];exact ⟨hO,rfl⟩;have hk:=nw k B hk hq;obtain ⟨h1,h2⟩:=hi.at' hf hA (hm k B hk);exact ((hi.ok k B (hm k B hk)).heap (hg.block _ (hi.lt (hm k B hk)) (hrow k B hk))).to h1 h2;by_cases hq:k=id;subst hq;rw [new B hk];exact ⟨hid,Aca.2 fun a hm=>Zmb (fun j hj=>(Aga.1 hj).1) (Aca.1 hl a hm)⟩;exact hi.wf k B (hm k B (nw k B hk hq));by_cases hq:k=id;subst hq;have hk':=nw k' B' hk' (fun e=>hne e.symm);rw [hu,(hi.at' hf hA (hm _ _ hk')).1];exact fun q=>far k' B' hk' q.symm;have hk0:=nw k B hk hq;rw [(hi.at' hf hA (hm _ _ hk0)).1];by_cases hq':k'=id;subst hq';rw [hu];exact far k B hk0;have hk':=nw k' B' hk' hq';rw [(hi.at' hf hA (hm _ _ hk')).1];exact hi.ne k k' B B' (hm _ _ hk0) (hm _ _ hk') hne
end
def lA(P:Fa)(σ:Sg)(m:List (Nat×AB)):Op→Option (A1×Nat)
 | .load t x=>match a0 (oA σ x) with
  | some (.p k o)=>match lk m k with
   | some B=>bif Va P t then (B.l[o]?).map fun a=>(.c a,k) else match tyAgg P t with
    | some z=>if o+z≤B.l.length then some (.g ((B.l.drop o).take z),k) else none
    | none=>none
   | none=>none
  | _=>none
 | _=>none
def Xtd(z:Nat):Nat→List (Nat×A1)→Option (List A0)
 | _,[]=>some []
 | k,(i,v)::rest=>if Aba i k&&Aba (cA v).length z then (Xtd z (k+1) rest).map (cA v ++ ·) else none
def rowA(e z:Nat)(m:List (Nat×AB)):A0→Option (Nat×List A0×List (Nat×AB))
 | .e=>some (0,[],m)
 | .r k j=>match lk m k with
  | some ⟨e',some (z',j'),l⟩=>if e'=e∧z'=z∧j'=j then some (j,l,del k m) else none
  | _=>none
 | _=>none
def eA(P:Fa)(cf:Nat→List AV→Am→Option (AV×Am))(σ:Sg)(s:Am)(id:Nat):Op→Option (AV×Am)
 | .alloc e=>match zeroOf P e with
  | some z=>match ofV z with
   | some a=>bif (cA a).all (us0 fun j=>Aaa j s.nx && !Aba j id) then some (.v (.c (.p id 0)),⟨s.nx,ins id ⟨e,none,cA a⟩ s.m⟩) else none
   | none=>none
  | none=>none
 | .box e x=>match oA σ x with
  | some (.v a)=>bif (cA a).all (us0 fun j=>Aaa j s.nx && !Aba j id) then some (.v (.c (.p id 0)),⟨s.nx,ins id ⟨e,none,cA a⟩ s.m⟩) else none
  | _=>none
 | .store t x y=>match a0 (oA σ x),oA σ y,tySize P t with
  | some (.p k o),some (.v a),some z=>match lk s.m k with
   | some ⟨e,none,l⟩=>if (cA a).length=z∧o+(cA a).length≤l.length∧(l.take o++cA a++l.drop (o+(cA a).length)).all (us0 fun j=>Aaa j s.nx)=true then
     some (.u,⟨s.nx,ins k ⟨e,none,l.take o++cA a++l.drop (o+(cA a).length)⟩ s.m⟩) else none
   | _=>none
  | _,_,_=>none
 | .buildSlice t m ps=>match tyElem P t,Umc σ ps.toList with
  | some (e,z,_),some vs=>match zeroOf P e,Xtd z 0 vs with
   | some _,some l=>bif (Ana (m*z) 16777216 && !Aba (m*z) 0&&Aba vs.length m)&&(l.all (us0 fun j=>Aaa j s.nx && !Aba j id)&&(Aba l.length (m*z)&&Ana m 1000000)) then some (.v (.c (.r id m)),⟨s.nx,ins id ⟨e,some (z,m),l⟩ s.m⟩) else none
   | _,_=>none
  | _,_=>none
 | .convert a b x=>match Vtb P a,Vtb P b,a0 (oA σ x) with
  | some _,some k,some (.i _ y)=>some (.v (.c (.i k (k.wrap y))),s)
  | _,_,_=>none
 | .call ⟨.value f,xs,_⟩=>match a0 (oA σ f),allO (oA σ) xs.toList with
  | some (.f g),some vs=>bif goFn P g then match cf g vs s with|some (.u,_)=>none|r=>r else none
  | _,_=>none
 | .call ⟨.builtin .append,⟨[x,y]⟩,⟨[t,t']⟩⟩=>match tyElem P t,a0 (oA σ x),a0 (oA σ y) with
  | some (e,z,by_),some X,some (.r k2 q)=>match zeroOf P e,lk s.m k2,rowA e z s.m X with
   | some zv,some B2,some (m,l,mm)=>if (t'=t∧zv.cells.size=z∧0<z∧0<q)∧(B2.l.length=q*z∧m+q≤maxLen∧(m+q)*by_≤140737488355328)∧(l++B2.l).all (us0 fun j=>Aaa j s.nx && !Aba j id)=true then
     some (.v (.c (.r id (m+q))),⟨s.nx,ins id ⟨e,some (z,m+q),l++B2.l⟩ mm⟩) else none
   | _,_,_=>none
  | _,_,_=>none
 | _=>none
def okD(n:Nat):Option Nat→AV→Bool
 | none,.u=>true
 | some t,.v _=>Aaa t n
 | some t,.t _=>Aaa t n
 | _,_=>false
def setS(d:Option Nat)(v:AV)(σ:Sg):Sg:=match d with
 | some t=>ins t v σ
 | none=>σ
def CfOk(P:Fa)(w0:Aa)(cf:Nat→List AV→Am→Option (AV×Am)):Prop:=∀ g vs s v s',cf g vs s=some (v,s')→∀ ρ w,Inv w0 ρ s w→(∀ x∈vs,usV (fun j=>Aaa j s.nx) x=true)→
 Ret P g (vs.map (vA ρ)).toArray w fun r w'=>∃ ρ',(∀ k,Aaa k s.nx=true→ρ' k = ρ k)∧Inv w0 ρ' s' w'∧r=vA ρ' v
theorem Ura{P:Fa}{Z:List Da→Act→Aa→Prop}{d:Option Nat}{op:Op}{ty:Ba}{pos:String}{after:Array Edge}{g:Option (Nat×Bool)}{σ:List Ent}{n:Nat}{w:Aa}{K:Act→Aa→Prop}{a:Act}
 (h:SR P Z [⟨d,op,ty,pos,after,none⟩] [2] [] w n K 0 [⟨d,op,ty,pos,after,none⟩] σ w) (ha:Kn n σ a):Eff P Z false ⟨d,op,ty,pos,after,g⟩ a w K:=by
 obtain ⟨o,ho,hb⟩:=h.h (fun j o h=>by simpa using h) a ha;obtain rfl:(⟨d,op,ty,pos,after,none⟩:Oper)=o:=Option.some.inj ho;rw [if_neg (by intro h;rcases h with h|h <;> cases h),if_pos Jma] at hb
 exact hb
section
variable {P:Fa} {w0 w:Aa} {ρ:Nat→Rv} {s s':Am} {σ:Sg} {id n:Nat} {c:Prop}
theorem Xye{b:Nat}{L:List A0}(h:RowAt w b 0 (L.map (v0 ρ)))(o z:Nat):RowAt w b o (((L.drop o).take z).map (v0 ρ)):=fun j v hj=>by
 have:=h (o+j) v (by
  rw [Axa] at hj ⊢;rw [Bsa] at hj;split at hj;rw [List.getElem?_drop] at hj;exact hj;cases hj)
 rwa [Bla] at this
theorem Zfg{op:Op}{v:A1}{k:Nat}{m:List (Nat×AB)}(h:lA P σ m op=some (v,k)):∃ B,lk m k=some B∧∀ {N0:Nat} {w:Aa} {ty:Ba},AbOk N0 ρ w k B→Rd P n (ent ρ σ) c w op ty (v1 ρ v):=by
 unfold lA at h;split at h;split at h;rename_i h1;split at h;rename_i B h2
 cases ht:Va P _ with
 | true =>
  rw [ht,Wug] at h;obtain ⟨a,h3,h4⟩:=Ada.1 h;injection h4 with h4 h5;subst h4 h5;refine ⟨B,h2,fun hB=>Zq ht (oC h1) fun _=>?_⟩;have:=hB.row _ (v0 ρ a) (by rw [Axa,h3];rfl);rwa [Bla] at this
 | false =>
  rw [ht,Wtg] at h;split at h;rename_i z h3;split at h;rename_i hz;injection h with h;injection h with h4 h5;subst h4 h5;exact ⟨B,h2,fun hB=>Zo h3 (oC h1) (by rw [Aea,Bma,List.length_drop];omega) fun _=>Xye hB.row _ _⟩;cases h;cases h
 cases h;cases h;cases h
theorem Jzc(ρ:Nat→Rv)(z:Nat):∀ (vs:List (Nat×A1)) (k:Nat) (l:List A0),Xtd z k vs=some l→Yyc z k (vs.map fun x=>(x.1,v1 ρ x.2))=some (l.map (v0 ρ))
 | [],k,l,h=>by injection h with h;subst h;rfl
 | (i,v)::rest,k,l,h=>by
  unfold Xtd at h;have hc:(v1 ρ v).cells.toList=(cA v).map (v0 ρ):=by rw [Wlb]
  split at h;rename_i hq;obtain ⟨l',h1,rfl⟩:=Ada.1 h;rw [Aqa];unfold Yyc;dsimp only;rw [hc,if_pos (by simpa using hq),Jzc ρ z rest _ l' h1];simp;cases h
theorem Xze:∀ {xs:List Ea} {vs:List AV},allO (oA σ) xs=some vs→Yta n (ent ρ σ) c xs (vs.map (vA ρ))
 | [],vs,h=>by injection h with h;subst h;exact Yl
 | x::r,vs,h=>by
  unfold allO at h;split at h;rename_i y l h1 h2;injection h with h;subst h;exact Ya (oE h1) (Xze h2);cases h
theorem Wae{p:Nat→Bool}(hw:∀ t x,lk σ t=some x→usV p x=true):∀ {xs:List Ea} {vs:List AV},(∀ x v,oA σ x=some v→usV p v=true)→allO (oA σ) xs=some vs→∀ x∈vs,usV p x=true
 | [],vs,_,h=>by injection h with h;subst h;exact fun x hx=>by cases hx
 | x::r,vs,ho,h=>by
  unfold allO at h;split at h;rename_i y l h1 h2;injection h with h;subst h
  exact fun z hz=>by
   rcases Aka.1 hz with rfl|hz;exact ho _ _ h1;exact Wae hw ho h2 z hz
  cases h
theorem Wbe{p:Nat→Bool}{v:Ga}{a:A0}(h:ofV0 v=some a):us0 p a=true:=by
 unfold ofV0 at h;split at h <;> first|cases h;rfl|cases h
theorem Und{α β:Type}{f:α→Option β}{q:β→Bool}(hf:∀ x y,f x=some y→q y=true):∀ {l:List α} {r:List β},allO f l=some r→r.all q=true
 | [],r,h=>by injection h with h;subst h;rfl
 | x::l,r,h=>by
  unfold allO at h;split at h;rename_i y l' h1 h2;injection h with h;subst h;rw [List.all_cons,hf _ _ h1,Und hf h2];rfl;cases h
theorem Xfg{p:Nat→Bool}{v:Ga}{a:A1}(h:ofV v=some a):us1 p a=true:=by
 unfold ofV at h;split at h;obtain ⟨l,h1,rfl⟩:=Ada.1 h;exact Und (fun x y=>Wbe) h1;obtain ⟨l,h1,rfl⟩:=Ada.1 h;exact Wbe h1
theorem oA_us{p:Nat→Bool}(hw:∀ t x,lk σ t=some x→usV p x=true){x:Ea}{v:AV}(h:oA σ x=some v):usV p v=true:=by
 cases x with
 | tmp t =>
  have h:(match lk σ t with|some .u=>none|x=>x)=some v:=h;split at h;cases h;exact hw t v h
 | const u =>
  obtain ⟨a,h1,rfl⟩:=Ada.1 h;exact Xfg h1
 | global g=>cases h
 | func g=>injection h with h;subst h;rfl
theorem Wff{f:Ea}{g:Nat}{xs:Array Ea}{ats:Array Ba}{vs:List Ga}{τ:List Ent}{ty:Ba}(hq:goFn P g=true)(h:Ev n τ c f (.func (.func g) #[] #[]))(hx:Yta n τ c xs.toList vs):RunC P n τ c w (.call ⟨.value f,xs,ats⟩) ty g vs.toArray:=by
 have:=Zu (w:=w) (ty:=ty) (ats:=ats) hq h hx (args:=vs.toArray) Os;simpa using this
def Aft(P:Fa)(w0:Aa)(ρ:Nat→Rv)(s:Am)(id n:Nat)(σ':Sg)(s':Am)(a':Act)(w':Aa):Prop:=∃ ρ',Agr1 s.nx id ρ ρ'∧Inv w0 ρ' s' w'∧Kn n (ent ρ' σ') a'
theorem hb2{d n:Nat}(hd:Aaa d n=true):(!Aba (clOf [2] 0) 0 && !Aba (clOf [2] 0) 3&&Aaa d n)=true:=by rw [hd];rfl
theorem Zgg{cf:Nat→List AV→Am→Option (AV×Am)}{Z:List Da→Act→Aa→Prop}{op:Op}{v:AV}{d:Option Nat}{ty:Ba}{pos:String}{after:Array Edge}{g:Option (Nat×Bool)}{a:Act}(hcf:CfOk P w0 cf)(h:eA P cf σ s id op=some (v,s'))(hd:okD n d v=true)(hi:Inv w0 ρ s w)(hw:Ws σ s.nx)(hf:Fre id σ s.m)
 (hid:Aaa id s.nx=true) (ha:Kn n (ent ρ σ) a):Eff P Z false ⟨d,op,ty,pos,after,g⟩ a w (Aft P w0 ρ s id n (setS d v σ) s'):=by
 have tE:=fun (x:Rv)=>hw.to hf (Wbc ρ s.nx id x);have tA:=fun (x:Rv)=>Wbc ρ s.nx id x;have tU:=fun (x:Rv)=>Zse ρ id x;unfold eA at h;split at h;split at h;split at h;rename_i z h1 y e1 h2
 cases hq:(cA e1).all (us0 fun j=>Aaa j s.nx && !Aba j id) with
 | false=>rw [hq] at h;cases h
 | true =>
  rw [hq,Wug] at h;injection h with h;injection h with h3 h4;subst h3 h4
  cases d with
  | none=>cases hd
  | some t =>
   refine Ura (Xc (l:=(cA e1).map (v0 ρ)) (hb2 hd) h1 (by rw [← Zre (ρ:=ρ) h2];exact Wlb ρ e1) fun b w1 N=>Ze fun a' ha'=>?_) ha;exact ⟨upd ρ id ⟨b,0,none⟩,tA _,hi.new hf hid N hq,Jyc (tE _) (by show (True,Value.pointer _)=_;rw [tU]) ha'⟩
 cases h;cases h;split at h;rename_i e1 h1
 cases hq:(cA e1).all (us0 fun j=>Aaa j s.nx && !Aba j id) with
 | false=>rw [hq] at h;cases h
 | true =>
  rw [hq,Wug] at h;injection h with h;injection h with h3 h4;subst h3 h4
  cases d with
  | none=>cases hd
  | some t =>
   refine Ura (Zda (l:=(cA e1).map (v0 ρ)) (hb2 hd) (oE h1) (Wlb ρ e1) fun b w1 N=>Ze fun a' ha'=>?_) ha;exact ⟨upd ρ id ⟨b,0,none⟩,tA _,hi.new hf hid N hq,Jyc (tE _) (by show (True,Value.pointer _)=_;rw [tU]) ha'⟩
 cases h;split at h;rename_i k o a1 z h1 h2 h3;split at h;rename_i e l h4;split at h;rename_i hc;injection h with h;injection h with h5 h6;subst h5 h6
 cases d with
 | some t=>cases hd
 | none =>
  have hB:=(hi.ok k _ h4).2;refine Ura (Xn (b:=(ρ k).b) (o:=o) (e:=e) (l:=l.map (v0 ρ)) (vs:=(cA a1).map (v0 ρ)) J h3 (oC h1) (oE h2) (Wlb ρ a1) (by rw [Aea];exact hc.1) hB (by rw [Aea,Aea];exact Bna hc.2.1) (Xue ρ _) fun w1 hg _ hB1=>Ze fun a' ha'=>?_) ha;refine ⟨ρ,fun _ _=>rfl,hi.set h4 hg ?_ hc.2.2,ha'⟩;rw [Aea] at hB1;rw [Aoa,Aoa,List.map_take,List.map_drop];exact hB1
 cases h;cases h;cases h;split at h;rename_i e z by_ vs h1 h2;split at h;rename_i zv l h3 h4
 cases hq:(Ana (_*z) 16777216 && !Aba (_*z) 0&&Aba vs.length _)&&(l.all (us0 fun j=>Aaa j s.nx && !Aba j id)&&(Aba l.length (_*z)&&Ana _ 1000000)) with
 | false=>rw [hq] at h;cases h
 | true =>
  rw [hq,Wug] at h;injection h with h;injection h with h5 h6;subst h5 h6;obtain ⟨hm,hl⟩:=Aga.1 hq;obtain ⟨hl,hlen⟩:=Aga.1 hl;obtain ⟨hlen,hm2⟩:=Aga.1 hlen
  cases d with
  | none=>cases hd
  | some t =>
   refine Ura (Yc (l.map (v0 ρ)) (hb2 hd) h1 h3 (by simpa using Unc h2) (by rw [Aea];exact hm) (Jzc ρ _ _ _ _ h4) fun b w1 N=>Ze fun a' ha'=>?_) ha;have hO:w1.ownsRow w0.heap.size e z (.slice (some ⟨b,0,none⟩) _ _) _ (l.map (v0 ρ)):=Yab N.blk (by rw [N.at_];exact hi.g.size) (by rw [Aea];exact Ala hlen) (Aya hm2);exact ⟨upd ρ id ⟨b,_,w1.heap[b]?⟩,tA _,hi.app hf hid (fun _ _ h=>h) (N.g.only none) (fun k h=>by cases h) (fun k B hk h=>by cases h) hO (.inr N.at_) hl,Jyc (tE _) (by show (True,Ia _ _ _)=_;rw [tU]) ha'⟩
 cases h;cases h;split at h;rename_i k1 k2 k3 y h1 h2 h3;injection h with h;injection h with h5 h6;subst h5 h6
 cases d with
 | none=>cases hd
 | some t =>
  exact .inl ⟨_,w,Yfe h1 h2 (oC h3) _ _ _ _ a ha trivial w (G.refl w),(fun h=>by cases h),ρ,fun _ _=>rfl,hi,Xrd hd ha⟩
 cases h;split at h;rename_i g1 vs h1 h2
 cases hq:goFn P g1 with
 | false=>rw [hq] at h;cases h
 | true =>
  rw [hq,Wug] at h
  obtain ⟨h,hnu⟩:cf g1 vs s=some (v,s')∧v≠.u:=by
   split at h;cases h;rename_i hn;exact ⟨h,fun e=>by subst e;exact hn _ h⟩
  have hC:=hcf _ _ _ _ _ h ρ w hi (Wae hw (fun x v hv=>oA_us hw hv) h2)
  cases d with
  | none=>cases v <;> first|exact absurd rfl hnu|cases hd
  | some t =>
   refine Ura (Xm (hb2 (by cases v <;> first|exact hd|cases hd)) ?_ hC fun r w' hr=>⟨(fun h=>by cases h),Ze fun a' ha'=>?_⟩) ha
   exact Wff hq (oC h1) (Xze h2);obtain ⟨ρ',hA,hI,rfl⟩:=hr;have hA':Agr1 s.nx id ρ ρ':=fun k hk=>hA k (Aga.1 hk).1;exact ⟨ρ',hA',hI,Jyc (hw.to hf hA') (by cases v <;> first|rfl|cases hd) ha'⟩
 cases h;split at h;rename_i e z by_ X k2 q h1 h2 h3;split at h;rename_i zv B2 m l mm h4 h5 h6;split at h;rename_i hc;injection h with h;injection h with h7 h8;subst h7 h8;obtain ⟨⟨rfl,hzs,hz0,hq0⟩,⟨hl2,h63,hby⟩,hus⟩:=hc
 cases d with
 | none=>cases hd
 | some t =>
  have hO2:=(hi.ok k2 B2 h5).row
  have hown:w.ownsRow w0.heap.size e z (v0 ρ X) m (l.map (v0 ρ))∧(∀ k B,lk mm k=some B→lk s.m k=some B)∧(∀ k,(v0 ρ X).ownBlock=some k→w0.heap.size≤k)∧∀ k B,lk mm k=some B→some (ρ k).b≠(v0 ρ X).ownBlock:=by
   unfold rowA at h6;split at h6;injection h6 with h6;injection h6 with h7 h6;injection h6 with h8 h6;subst h7 h8 h6;exact ⟨Je _ _ _ _,fun _ _ h=>h,(fun k hk=>by cases hk),fun k B _ hk=>by cases hk⟩;rename_i k j;split at h6;rename_i e' z' j' l' h7;split at h6;rename_i he;obtain ⟨rfl,rfl,rfl⟩:=he;injection h6 with h6;injection h6 with h8 h6;injection h6 with h9 h6;subst h8 h9 h6;have hk:=hi.ok k _ h7;refine ⟨hk.2.1,fun i B hB=>?_,fun i hi'=>?_,fun i B hB hi'=>?_⟩;rw [Zqe] at hB
   cases hb:Aba k i with
   | true=>rw [hb] at hB;cases hB
   | false=>rw [hb] at hB;exact hB
   injection hi' with hi';subst hi';exact hk.1;rw [Zqe] at hB
   cases hb:Aba k i with
   | true=>rw [hb] at hB;cases hB
   | false =>
    rw [hb] at hB;injection hi' with hi';exact hi.ne i k B _ hB h7 (fun e=>by subst e;rw [Ama] at hb;cases hb) hi'
   cases h6;cases h6;cases h6
  obtain ⟨ho1,ho2,ho3,ho4⟩:=hown;refine Ura (Um (news:=B2.l.map (v0 ρ)) (base:=w0.heap.size) (by rw [show Aaa t n=true from hd];rfl) h1 h4 hzs hz0 (oC h2) ho1 (oC h3) (by rw [Aea];exact hl2) hO2 (Xue ρ _) h63 hby hi.g.size fun a1 c1 w1 hO hg hor=>Ze fun a' ha'=>?_) ha;rw [← Aoa] at hO
  obtain ⟨b,rfl⟩:∃ b,a1=some ⟨b,0,none⟩:=by
   rcases hO.2 with ⟨q1,q2⟩|⟨g,cap,cur,q1,_⟩;omega;injection q1 with q1;exact ⟨g,q1⟩
  refine ⟨upd ρ id ⟨b,c1,w1.heap[b]?⟩,tA _,hi.app hf hid ho2 hg ho3 ho4 hO ?_ hus,Jyc (tE _) (by show (True,Ia _ _ _)=_;rw [tU]) ha'⟩;rcases hor with hor|hor;exact .inl hor.symm;injection hor with hor;exact .inr hor
 cases h;cases h;cases h;cases h
end
def wantA(ops:List Oper)(σ:Sg):Option (Nat×Bool)→Option Bool
 | none=>some true
 | some (g,want)=>match (ops.toArray[g]?).bind (·.dst) with
  | some t=>match lk σ t with
   | some (.v (.c (.b x)))=>some (decide (x=want))
   | some .u=>some false
   | _=>none
  | none=>none
def fin(n:Nat)(d:Option Nat)(v:AV)(σ:Sg)(s s':Am):Option (Sg×Am):=bif okD n d v&&(usV (fun j=>Aaa j s'.nx) v&&Ana s.nx s'.nx) then some (setS d v σ,s') else none
def empty(n:Nat)(d:Option Nat)(σ:Sg)(s:Am):Option (Sg×Am):=match d with
 | some t=>bif Aaa t n then some (ins t .u σ,s) else none
 | none=>some (σ,s)
def stepA(P:Fa)(cf:Nat→List AV→Am→Option (AV×Am))(n:Nat)(ops:List Oper)(σ:Sg)(s:Am)(id:Nat)(o:Oper):Option (Sg×Am):=match wantA ops σ o.guard with
 | some false=>empty n o.dst σ s
 | some true=>match pA P σ o.op with
  | some v=>fin n o.dst v σ s s
  | none=>match lA P σ s.m o.op with
   | some (v,_)=>fin n o.dst (.v v) σ s s
   | none=>match eA P cf σ s id o.op with
    | some (v,s')=>fin n o.dst v σ s s'
    | none=>none
 | none=>none
def runT(P:Fa)(cf:Nat→List AV→Am→Option (AV×Am))(n:Nat)(ops:List Oper):List Oper→Sg→Am→Option (Sg×Am)
 | [],σ,s=>some (σ,s)
 | o::r,σ,s=>match stepA P cf n ops σ ⟨s.nx+1,s.m⟩ s.nx o with
  | some (σ',s')=>runT P cf n ops r σ' s'
  | none=>none
section
variable {P:Fa} {cf:Nat→List AV→Am→Option (AV×Am)} {w0 w:Aa} {ρ:Nat→Rv} {s s':Am} {σ σ':Sg} {id n:Nat} {ops:List Oper} {o:Oper} {a:Act}
theorem Vdb{b:Bool}(h:wantA ops σ o.guard=some b)(ha:Kn n (ent ρ σ) a):Ha o (yielded ops.toArray a.tmps)=b:=by
 obtain ⟨d,op,ty,pos,after,g⟩:=o
 cases g with
 | none=>cases h;rfl
 | some g =>
  obtain ⟨g,want⟩:=g;unfold wantA at h;dsimp only at h;split at h;rename_i t h1;split at h;rename_i x h2;injection h with h;subst h;have hw:=Qta (op:=op) (ty:=ty) (pos:=pos) (after:=after) (want:=want) (d:=d) (b:=x) (c0:=True) h1 (by rw [Qma,h2];rfl) ha;by_cases hx:x=want;rw [hw.2 ⟨trivial,hx⟩,Wng hx];rw [Wmg hx]
  cases hq:Ha _ _ with
  | false=>rfl
  | true=>exact absurd (hw.1 hq).2 hx
  rename_i h2;injection h with h;subst h;have hw:=Qta (op:=op) (ty:=ty) (pos:=pos) (after:=after) (want:=want) (d:=d) (b:=false) (c0:=False) h1 (by rw [Qma,h2];rfl) ha
  cases hq:Ha _ _ with
  | false=>rfl
  | true=>exact (hw.1 hq).1.elim
  cases h;cases h
theorem Xud{d:Option Nat}{v:AV}(hd:okD n d v=true)(ha:Kn n (ent ρ σ) a):Kn n (ent ρ (setS d v σ)) (a.put d (vA ρ v)):=by
 cases d with
 | none=>exact ha
 | some t=>exact Xrd (by cases v <;> first|exact hd|cases hd) ha
theorem Yib{d:Option Nat}{v:AV}(h:fin n d v σ s s'=some (σ',s')):okD n d v=true∧usV (fun j=>Aaa j s'.nx) v=true∧s.nx≤s'.nx∧σ'=setS d v σ:=by
 unfold fin at h
 cases hq:okD n d v&&(usV (fun j=>Aaa j s'.nx) v&&Ana s.nx s'.nx) with
 | false=>rw [hq] at h;cases h
 | true =>
  rw [hq,Wug] at h;injection h with h;injection h with h1 h2;simp only [Ara] at hq;exact ⟨hq.1,hq.2.1,Aya hq.2.2,h1.symm⟩
theorem Upc{d:Option Nat}{v:AV}{s1:Am}(h:fin n d v σ s s1=some (σ',s')):s1=s':=by
 unfold fin at h
 cases hq:okD n d v&&(usV (fun j=>Aaa j s1.nx) v&&Ana s.nx s1.nx) with
 | false=>rw [hq] at h;cases h
 | true=>rw [hq,Wug] at h;injection h with h;injection h with _ h
theorem Xna{j a b:Nat}(h:Aaa j a=true)(hab:a≤b):Aaa j b=true:=Bna (Aha (Aya h) hab)
theorem Ws.mono{a b:Nat}(h:Ws σ a)(hab:a≤b):Ws σ b:=fun t x hl=>Umd (fun j hj=>Xna hj hab) (h t x hl)
theorem Qfb{d:Option Nat}{v:AV}{m:Nat}(h:Ws σ m)(hv:usV (fun j=>Aaa j m) v=true):Ws (setS d v σ) m:=by
 cases d with
 | none=>exact h
 | some t =>
  intro u x hl;have hl:lk (ins t v σ) u=some x:=hl;rw [Yhb] at hl
  cases hb:Aba t u with
  | true=>rw [hb] at hl;injection hl with hl;subst hl;exact hv
  | false=>rw [hb] at hl;exact h u x hl
theorem Inv.bump(hi:Inv w0 ρ s w){m:Nat}(hm:s.nx≤m):Inv w0 ρ ⟨m,s.m⟩ w:=⟨hi.g,hi.ok,fun k B hk=>⟨Xna (hi.wf k B hk).1 hm,Aca.2 fun a ha=>Zmb (fun j hj=>Xna hj hm) (Aca.1 (hi.wf k B hk).2 a ha)⟩,hi.ne⟩
theorem Xvd{j m:Nat}(h:Aaa j m=true):(!Aba j m)=true:=by
 have:=Aya h;rw [Vja O];rfl
theorem Xgg(hi:Inv w0 ρ s w)(hw:Ws σ s.nx):Fre s.nx σ s.m:=⟨fun t x hl=>Umd (fun j hj=>Xvd hj) (hw t x hl),fun k B hk=>⟨by have:=Xvd (hi.wf k B hk).1;simpa using this,Aca.2 fun a ha=>Zmb (fun j hj=>Xvd hj) (Aca.1 (hi.wf k B hk).2 a ha)⟩⟩
theorem Uod{d:Option Nat}(h:empty n d σ s=some (σ',s'))(ha:Kn n (ent ρ σ) a)(hw:Ws σ s.nx):s'=s∧Ws σ' s.nx∧Kn n (ent ρ σ') (a.put d undef):=by
 cases d with
 | none=>injection h with h;injection h with h1 h2;subst h1 h2;exact ⟨rfl,hw,ha⟩
 | some t =>
  unfold empty at h;dsimp only at h
  cases hq:Aaa t n with
  | false=>rw [hq] at h;cases h
  | true =>
   rw [hq,Wug] at h;injection h with h;injection h with h1 h2;subst h1 h2;exact ⟨rfl,Qfb (d:=some t) (v:=.u) hw rfl,Xrd (v:=.u) hq ha⟩
theorem Upd(h:stepA P cf n ops σ s id o=some (σ',s'))(hw:Ws σ s.nx):s.nx≤s'.nx∧Ws σ' s'.nx:=by
 unfold stepA at h
 have key:∀ {v:AV} {s1:Am},fin n o.dst v σ s s1=some (σ',s')→s.nx≤s'.nx∧Ws σ' s'.nx:=fun hf=>by
  obtain rfl:=Upc hf;obtain ⟨h1,h2,h3,rfl⟩:=Yib hf;exact ⟨h3,Qfb (hw.mono h3) h2⟩
 split at h
 cases hd:o.dst with
 | none=>rw [hd] at h;injection h with h;injection h with h1 h2;subst h1 h2;exact ⟨Afa _,hw⟩
 | some t =>
  rw [hd] at h;unfold empty at h;dsimp only at h
  cases hq:Aaa t n with
  | false=>rw [hq] at h;cases h
  | true=>rw [hq,Wug] at h;injection h with h;injection h with h1 h2;subst h1 h2;exact ⟨Afa _,Qfb (d:=some t) (v:=.u) hw rfl⟩
 split at h;exact key h;split at h;exact key h;split at h;exact key h;cases h;cases h
theorem Wgf{Z:List Da→Act→Aa→Prop}(hcf:CfOk P w0 cf)(h:stepA P cf n ops σ s id o=some (σ',s'))(hi:Inv w0 ρ s w)(hw:Ws σ s.nx)(hf:Fre id σ s.m)(hid:Aaa id s.nx=true)(ha:Kn n (ent ρ σ) a) :
 if Ha o (yielded ops.toArray a.tmps)=true then Eff P Z false o a w (Aft P w0 ρ s id n σ' s') else Aft P w0 ρ s id n σ' s' (a.put o.dst undef) w:=by
 unfold stepA at h;split at h;rename_i h0;rw [if_neg (by rw [Vdb h0 ha];simp)];obtain ⟨rfl,_,h2⟩:=Uod h ha hw;exact ⟨ρ,fun _ _=>rfl,hi,h2⟩;rename_i h0;rw [if_pos (Vdb h0 ha)];obtain ⟨d,op,ty,pos,after,g⟩:=o;split at h;rename_i v hv;obtain rfl:=Upc h;obtain ⟨h1,h2,h3,rfl⟩:=Yib h;exact .inl ⟨_,w,Zeg hv _ _ _ _ a ha trivial w (G.refl w),(fun h=>by cases h),ρ,fun _ _=>rfl,hi,Xud h1 ha⟩;split at h;rename_i v k hv;obtain rfl:=Upc h;obtain ⟨h1,h2,h3,rfl⟩:=Yib h;obtain ⟨B,hB,hr⟩:=Zfg (ρ:=ρ) (n:=n) (c:=True) hv;exact .inl ⟨_,w,hr (hi.ok k B hB) _ _ _ _ a ha trivial w (G.refl w),(fun h=>by cases h),ρ,fun _ _=>rfl,hi,Xud h1 ha⟩;split at h;rename_i v s1 hv;obtain rfl:=Upc h;obtain ⟨h1,h2,h3,rfl⟩:=Yib h;exact Zgg hcf hv h1 hi hw hf hid ha;cases h;cases h
theorem Wce:∀ (l:List Oper) (σ:Sg) (s:Am),runT P cf n ops l σ s=some (σ',s')→Ws σ s.nx→s.nx≤s'.nx∧Ws σ' s'.nx
 | [],σ,s,h,hw=>by injection h with h;injection h with h1 h2;subst h1 h2;exact ⟨Afa _,hw⟩
 | o::r,σ,s,h,hw=>by
  unfold runT at h;split at h;rename_i σ1 s1 h1;obtain ⟨h2,h3⟩:=Upd h1 (hw.mono (Aza _));obtain ⟨h4,h5⟩:=Wce r σ1 s1 h h3;exact ⟨Aha (Aza _) (Aha h2 h4),h5⟩;cases h
theorem Wde{Z:List Da→Act→Aa→Prop}{W0:Aa}(hcf:CfOk P w0 cf):∀ (l:List Oper) (k:Nat) (σ:Sg) (s:Am) (ρ:Nat→Rv) (a:Act) (w:Aa) (K:Act→Aa→Prop),(∀ j,l[j]? = ops[k+j]?)→runT P cf n ops l σ s=some (σ',s')→Inv w0 ρ s w→Ws σ s.nx→Kn n (ent ρ σ) a→
  (∀ ρ' a' w',(∀ j,Aaa j s.nx=true→ρ' j = ρ j)→Inv w0 ρ' s' w'→Kn n (ent ρ' σ') a'→K a' w')→RS P Z ops.toArray (fun _=>2) (fun _=>true) W0 K (List.range' k l.length) a w
 | [],k,σ,s,ρ,a,w,K,hl,h,hi,hw,ha,hK=>by
  injection h with h;injection h with h1 h2;subst h1 h2;exact hK ρ a w (fun _ _=>rfl) hi ha
 | o::r,k,σ,s,ρ,a,w,K,hl,h,hi,hw,ha,hK=>by
  unfold runT at h;split at h;rename_i σ1 s1 h1;have hw1:=hw.mono (Aza s.nx);obtain ⟨h2,h3⟩:=Upd h1 hw1;have hid:Aaa s.nx (s.nx+1)=true:=Bna (Afa _);have hst:=Wgf (Z:=Z) hcf h1 (hi.bump (Aza s.nx)) hw1 (Xgg hi hw) hid ha
  have hnext:∀ a' w',Aft P w0 ρ ⟨s.nx+1,s.m⟩ s.nx n σ1 s1 a' w'→RS P Z ops.toArray (fun _=>2) (fun _=>true) W0 K (List.range' (k+1) r.length) a' w':=by
   rintro a' w' ⟨ρ1,hA,hI,hk⟩;refine Wde hcf r (k+1) σ1 s1 ρ1 a' w' K (fun j=>by have:=hl (j+1);simpa [Nat.add_assoc,Nat.add_comm 1 j] using this) h hI h3 hk fun ρ' a2 w2 hA2 hI2 hk2=>hK ρ' a2 w2 (fun j hj=>?_) hI2 hk2;have hj1:Aaa j (s.nx+1)=true:=Xna hj (Aza _);rw [hA2 j (Xna hj1 h2)];exact hA j (by rw [hj1,Xvd hj];rfl)
  rw [Baa,List.range'_succ];refine ⟨o,by have:=hl 0;simpa using this.symm,?_⟩;rw [if_neg (by intro h;rcases h with h|h <;> cases h)]
  split;rename_i hwt;rw [if_pos hwt] at hst;exact hst.turn rfl (fun _ _ h=>h) fun v w' _ hn=>hnext _ _ hn;rename_i hwt;rw [if_neg hwt] at hst;exact hnext _ _ hst;cases h
end
def clT(o:Oper):Nat:=match o.op with
 | .load ..=>0
 | .move .. | .assign .. | .pick .. | .nilCheck .. | .binOp .. | .unOp .. | .slice .. | .fieldAddr .. | .field .. | .indexAddr .. | .index .. | .extract .. | .build ..=>3
 | .store ..=>2
 | .call c=>match c.callee with
  | .builtin .len=>3
  | .builtin .append=>2
  | _=>1
 | _=>1
def masksA:List Oper→List Nat→List Nat
 | [],ms=>ms
 | o::r,ms=>masksA r (ms++[maskOf ms o.after.toList])
def freB(id:Nat)(σ:Sg)(m:List (Nat×AB)):Bool:=σ.all (fun x=>usV (fun j=>!Aba j id) x.2)&&m.all fun x=>!Aba x.1 id&&x.2.l.all (us0 fun j=>!Aba j id)
abbrev DR:=Option (Sg×Am×List Nat×List (List (Nat×AB)×List (Nat×AB)))
def runAll(f:Nat→DR):List Nat→DR
 | []=>none
 | [j]=>f j
 | j::r=>match f j,runAll f r with
  | some (σ1,s1,k1,n1),some (σ2,s2,k2,n2)=>if σ1 = σ2∧s1=s2 then some (σ1,s1,k1++k2,n1++n2) else none
  | _,_=>none
def Wee(k:List Nat)(n:List (List (Nat×AB)×List (Nat×AB))):DR→DR
 | some (σ,s,k',n')=>some (σ,s,k++k',n++n')
 | none=>none
def rdA(P:Fa)(n B:Nat)(ops:List Oper)(σ:Sg)(s:Am)(o:Oper)(three:Bool):Option (Sg×List Nat):=match wantA ops σ o.guard with
 | some false=>(empty n o.dst σ s).map fun x=>(x.1,[])
 | some true=>bif three then (match pA P σ o.op with
   | some v=>(fin n o.dst v σ s s).map fun x=>(x.1,[])
   | none=>none)
  else match lA P σ s.m o.op with
   | some (v,k)=>bif Aaa k B then (fin n o.dst (.v v) σ s s).map fun x=>(x.1,[k]) else none
   | none=>none
 | none=>none
def efA(P:Fa)(cf:Nat→List AV→Am→Option (AV×Am))(n:Nat)(ops:List Oper)(σ:Sg)(s:Am)(id:Nat)(o:Oper):Option (Sg×Am):=bif freB id σ s.m&&Aaa id s.nx then (match wantA ops σ o.guard with
 | some false=>empty n o.dst σ s
 | some true=>(match eA P cf σ s id o.op with
   | some (v,s')=>fin n o.dst v σ s s'
   | none=>none)
 | none=>none) else none
def runD(P:Fa)(cf:Nat→List AV→Am→Option (AV×Am))(n B:Nat)(ops:List Oper)(cl ms:List Nat):Nat→List Nat→Sg→Am→DR
 | 0,L,σ,s=>bif L.isEmpty then some (σ,s,[],[]) else none
 | m+1,L,σ,s=>match L.find? (fun r=>availB ms L r&&isRdB cl r) with
  | some r=>match ops.toArray[r]? with
   | some o=>match rdA P n B ops σ s o (Aba (clOf cl r) 3) with
    | some (σ1,k1)=>Wee k1 [] (runD P cf n B ops cl ms m (L.erase r) σ1 s)
    | none=>none
   | none=>none
  | none=>runAll (fun j=>match ops.toArray[j]? with
   | some o=>match efA P cf n ops σ s (B+j) o with
    | some (σ1,s1)=>Wee [] (bif Aba (clOf cl j) 1 then [(s.m,s1.m)] else []) (runD P cf n B ops cl ms m (L.erase j) σ1 s1)
    | none=>none
   | none=>none) (candB cl ms L)
def runG(P:Fa)(cf:Nat→List AV→Am→Option (AV×Am))(n:Nat)(ops:List Oper)(σ:Sg)(s:Am):Option (Sg×Am) :=
 bif okT ops (ops.map clT) (masksA ops []) then (match runD P cf n s.nx ops (ops.map clT) (masksA ops []) ops.length (List.range ops.length) σ ⟨s.nx+ops.length,s.m⟩ with
  | some (σ',s',kp,sn)=>bif kp.all (fun k=>Aaa k s.nx)&&sn.all (fun x=>kp.all fun k=>(lk x.1 k).isSome&&decide (lk x.1 k=lk x.2 k)) then some (σ',s') else none
  | none=>none) else none
section
variable {P:Fa} {cf:Nat→List AV→Am→Option (AV×Am)} {w0 w:Aa} {ρ:Nat→Rv} {s s':Am} {σ σ':Sg} {id n:Nat} {ops:List Oper} {o:Oper} {a:Act}
theorem Zte{α:Type}{t:Nat}{v:α}:∀ {l:List (Nat×α)},lk l t=some v→(t,v)∈l
 | [],h=>by cases h
 | (k,x)::r,h=>by
  unfold lk at h
  cases hb:Aba k t with
  | true=>rw [hb] at h;injection h with h;subst h;rw [Ala hb];exact Apa
  | false=>rw [hb] at h;exact Awa _ (Zte h)
theorem Xhg{m:List (Nat×AB)}(h:freB id σ m=true):Fre id σ m:=by
 obtain ⟨h1,h2⟩:=Aga.1 h;refine ⟨fun t x hl=>Aca.1 h1 _ (Zte hl),fun k B hk=>?_⟩;have:=Aca.1 h2 _ (Zte hk);obtain ⟨h3,h4⟩:=Aga.1 this;exact ⟨by simpa using h3,h4⟩
theorem Qgb{f:Nat→DR}:∀ {cs:List Nat} {σ':Sg} {s':Am} {kp:List Nat} {sn:List (List (Nat×AB)×List (Nat×AB))},runAll f cs=some (σ',s',kp,sn)→∀ j∈cs,∃ k1 n1,f j=some (σ',s',k1,n1)∧(∀ x∈k1,x∈kp)∧∀ x∈n1,x∈sn
 | [],_,_,_,_,h=>by cases h
 | [j],σ',s',kp,sn,h=>fun i hi=>by
  rw [Boa.1 hi];exact ⟨kp,sn,h,fun _ h=>h,fun _ h=>h⟩
 | j::i::r,σ',s',kp,sn,h=>by
  unfold runAll at h;split at h;rename_i σ1 s1 k1 n1 σ2 s2 k2 n2 h1 h2;split at h;rename_i he;obtain ⟨rfl,rfl⟩:=he;injection h with h;injection h with h3 h;injection h with h4 h;injection h with h5 h6;subst h3 h4 h5 h6;intro x hx;rcases Aka.1 hx with rfl|hx;exact ⟨k1,n1,h1,fun _ h=>Bfa _ h,fun _ h=>Bfa _ h⟩;obtain ⟨k3,n3,q1,q2,q3⟩:=Qgb h2 x hx;exact ⟨k3,n3,q1,fun _ h=>Asa _ (q2 _ h),fun _ h=>Asa _ (q3 _ h)⟩;cases h;cases h
theorem Jyb{k:List Nat}{n0:List (List (Nat×AB)×List (Nat×AB))}{r:DR}{kp:List Nat}{sn:List (List (Nat×AB)×List (Nat×AB))}(h:Wee k n0 r=some (σ',s',kp,sn)):∃ k' n',r=some (σ',s',k',n')∧kp=k++k'∧sn=n0++n':=by
 unfold Wee at h;split at h;injection h with h;injection h with h3 h;injection h with h4 h;injection h with h5 h6;subst h3 h4;exact ⟨_,_,rfl,h5.symm,h6.symm⟩;cases h
theorem Jdf{Z:List Da→Act→Aa→Prop}{row:RelX}{gr:Bool}{K next:Act→Aa→Prop}(h:Eff P Z false o a w K)(hk:∀ a' w',K a' w'→(gr=true→GX row w w')∧next a' w'):EffQ P Z row gr o a w next:=by
 rcases h with ⟨v,w',hr,_,hn⟩|⟨w',hr,_,hn⟩|⟨f,args,hr,hc⟩|⟨l,f,tmps,asg,body,hr,hc⟩;exact .inl ⟨v,w',hr,hk _ _ hn⟩;exact .inr (.inl ⟨w',hr,hk _ _ hn⟩);refine .inr (.inr (.inl ⟨f,args,hr,Calls.mono hc fun e w' h=>?_⟩));rcases h with ⟨v,e1,_,h1⟩|⟨ch,e1,h1⟩;exact .inl ⟨v,e1,hk _ _ h1⟩;exact .inr ⟨ch,e1,h1⟩;refine .inr (.inr (.inr ⟨l,f,tmps,asg,body,hr,RoundIn.mono hc fun e w' h=>?_⟩));obtain ⟨v,e1,_,h1⟩:=h;exact ⟨v,e1,hk _ _ h1⟩
@[reducible] def keepR(ρ:Nat→Rv)(KF:List Nat):RelX:=⟨fun w w'=>∀ k∈KF,w'.heap[(ρ k).b]? = w.heap[(ρ k).b]?,fun _ _ _=>rfl,fun h h' k hk=>(h' k hk).trans (h k hk)⟩
theorem Zad{d:Option Nat}{σ1:Sg}{k1:List Nat}(h:(empty n d σ s).map (fun x=>(x.1,([]:List Nat)))=some (σ1,k1)):empty n d σ s=some (σ1,s)∧k1=[]:=by
 obtain ⟨⟨x1,x2⟩,h1,h2⟩:=Ada.1 h;injection h2 with h2 h3;subst h2 h3;refine ⟨?_,rfl⟩;rw [h1]
 cases d with
 | none=>injection h1 with h1;injection h1 with _ h1;rw [h1]
 | some t =>
  unfold empty at h1;dsimp only at h1
  cases hq:Aaa t n with
  | false=>rw [hq] at h1;cases h1
  | true=>rw [hq,Wug] at h1;injection h1 with h1;injection h1 with _ h1;rw [h1]
theorem Wcc{d:Option Nat}{v:AV}{σ1:Sg}{k1 k2:List Nat}(h:(fin n d v σ s s).map (fun x=>(x.1,k2))=some (σ1,k1)):fin n d v σ s s=some (σ1,s)∧k1=k2:=by
 obtain ⟨⟨x1,x2⟩,h1,h2⟩:=Ada.1 h;injection h2 with h2 h3;subst h2 h3;obtain rfl:=Upc h1;exact ⟨h1,rfl⟩
theorem Whf{B:Nat}{three:Bool}{σ1:Sg}{k1:List Nat}(h:rdA P n B ops σ s o three=some (σ1,k1))(hw:Ws σ s.nx):Ws σ1 s.nx:=by
 have key:∀ {v:AV},fin n o.dst v σ s s=some (σ1,s)→Ws σ1 s.nx:=fun hf=>by
  obtain ⟨h1,h2,h3,rfl⟩:=Yib hf;exact Qfb hw h2
 unfold rdA at h;split at h;obtain ⟨h1,_⟩:=Zad h
 cases hd:o.dst with
 | none=>rw [hd] at h1;injection h1 with h1;injection h1 with h1 _;subst h1;exact hw
 | some t =>
  rw [hd] at h1;unfold empty at h1;dsimp only at h1
  cases hq:Aaa t n with
  | false=>rw [hq] at h1;cases h1
  | true=>rw [hq,Wug] at h1;injection h1 with h1;injection h1 with h1 _;subst h1;exact Qfb (d:=some t) (v:=.u) hw rfl
 cases three with
 | true =>
  rw [Wug] at h;split at h;exact key (Wcc h).1;cases h
 | false =>
  rw [Wtg] at h;split at h;rename_i v k hv
  cases hq:Aaa k B with
  | false=>rw [hq] at h;cases h
  | true=>rw [hq,Wug] at h;exact key (Wcc h).1
  cases h
 cases h
theorem Xig{B:Nat}{three:Bool}{σ1:Sg}{k1:List Nat}{ρB:Nat→Rv}{KF:List Nat}(h:rdA P n B ops σ s o three=some (σ1,k1))(hi:Inv w0 ρ s w)(ha:Kn n (ent ρ σ) a)(hB:∀ k,Aaa k B=true→ρ k = ρB k)(hk:∀ x∈k1,x∈KF) :
 ∃ v,(Ha o (yielded ops.toArray a.tmps)=true→∀ w1,three=true∨GX (keepR ρB KF) w w1→(execOp a.eval o).run P w1 = .ok (.value v) w1)∧(Ha o (yielded ops.toArray a.tmps)=false→v=undef)∧Kn n (ent ρ σ1) (a.put o.dst v):=by
 unfold rdA at h;split at h;rename_i h0;have hwt:=Vdb h0 ha;obtain ⟨h1,_⟩:=Zad h;refine ⟨undef,fun hq=>(by rw [hwt] at hq;cases hq),fun _=>rfl,?_⟩
 cases hd:o.dst with
 | none=>rw [hd] at h1;injection h1 with h1;injection h1 with h1 _;subst h1;exact ha
 | some t =>
  rw [hd] at h1;unfold empty at h1;dsimp only at h1
  cases hq:Aaa t n with
  | false=>rw [hq] at h1;cases h1
  | true=>rw [hq,Wug] at h1;injection h1 with h1;injection h1 with h1 _;subst h1;exact Xrd (v:=.u) hq ha
 rename_i h0;have hwt:=Vdb h0 ha;obtain ⟨d,op,ty,pos,after,g⟩:=o
 cases three with
 | true =>
  rw [Wug] at h;split at h;rename_i v hv;obtain ⟨h1,_⟩:=Wcc h;obtain ⟨h2,h3,h4,rfl⟩:=Yib h1;exact ⟨_,fun _ w1 _=>Zeg hv _ _ _ _ a ha trivial w1 (G.refl w1),fun hq=>(by rw [hwt] at hq;cases hq),Xud h2 ha⟩;cases h
 | false =>
  rw [Wtg] at h;split at h;rename_i v k hv
  cases hq:Aaa k B with
  | false=>rw [hq] at h;cases h
  | true =>
   rw [hq,Wug] at h;obtain ⟨h1,rfl⟩:=Wcc h;obtain ⟨h2,h3,h4,rfl⟩:=Yib h1;obtain ⟨A,hA,hr⟩:=Zfg (ρ:=ρ) (n:=n) (c:=True) hv;refine ⟨_,fun _ w1 hg=>?_,fun hq=>(by rw [hwt] at hq;cases hq),Xud h2 ha⟩;rcases hg with hg|hg;cases hg;have hh:=hg k (hk k Apa);rw [← hB k hq] at hh;exact hr ((hi.ok k A hA).heap hh) _ _ _ _ a ha trivial w1 (G.refl w1)
  cases h
 cases h
theorem Xwd(h:efA P cf n ops σ s id o=some (σ',s')):Fre id σ s.m∧Aaa id s.nx=true∧(match wantA ops σ o.guard with
 | some false=>empty n o.dst σ s
 | some true=>(match eA P cf σ s id o.op with
   | some (v,s')=>fin n o.dst v σ s s'
   | none=>none)
 | none=>none)=some (σ',s'):=by
 unfold efA at h
 cases hq:freB id σ s.m&&Aaa id s.nx with
 | false=>rw [hq] at h;cases h
 | true =>
  rw [hq,Wug] at h
  obtain ⟨hf,hid⟩:=Aga.1 hq
  exact ⟨Xhg hf,hid,h⟩
theorem Wif(h:efA P cf n ops σ s id o=some (σ',s'))(hw:Ws σ s.nx):s.nx≤s'.nx∧Ws σ' s'.nx:=by
 have h:=(Xwd h).2.2;split at h
 cases hd:o.dst with
 | none=>rw [hd] at h;injection h with h;injection h with h1 h2;subst h1 h2;exact ⟨Afa _,hw⟩
 | some t =>
  rw [hd] at h;unfold empty at h;dsimp only at h
  cases hq:Aaa t n with
  | false=>rw [hq] at h;cases h
  | true=>rw [hq,Wug] at h;injection h with h;injection h with h1 h2;subst h1 h2;exact ⟨Afa _,Qfb (d:=some t) (v:=.u) hw rfl⟩
 split at h;obtain rfl:=Upc h;obtain ⟨h1,h2,h3,rfl⟩:=Yib h;exact ⟨h3,Qfb (hw.mono h3) h2⟩;cases h;cases h
theorem Xjg{Z:List Da→Act→Aa→Prop}(hcf:CfOk P w0 cf)(h:efA P cf n ops σ s id o=some (σ',s'))(hi:Inv w0 ρ s w)(hw:Ws σ s.nx)(ha:Kn n (ent ρ σ) a) :
 if Ha o (yielded ops.toArray a.tmps)=true then Eff P Z false o a w (Aft P w0 ρ s id n σ' s') else Aft P w0 ρ s id n σ' s' (a.put o.dst undef) w:=by
 obtain ⟨hf,hid,h⟩:=Xwd h;split at h;rename_i h0;rw [if_neg (by rw [Vdb h0 ha];simp)];obtain ⟨rfl,_,h2⟩:=Uod h ha hw;exact ⟨ρ,fun _ _=>rfl,hi,h2⟩;rename_i h0;rw [if_pos (Vdb h0 ha)];obtain ⟨d,op,ty,pos,after,g⟩:=o;split at h;rename_i v s1 hv;obtain rfl:=Upc h;obtain ⟨h1,h2,h3,rfl⟩:=Yib h;exact Zgg hcf hv h1 hi hw hf hid ha;cases h;cases h
theorem Xxd{B:Nat}{cl ms:List Nat}:∀ (m:Nat) (L:List Nat) (σ:Sg) (s:Am) (kp:List Nat) (sn:List (List (Nat×AB)×List (Nat×AB))),L.length=m→runD P cf n B ops cl ms m L σ s=some (σ',s',kp,sn)→Ws σ s.nx→s.nx≤s'.nx∧Ws σ' s'.nx
 | 0,L,σ,s,kp,sn,_,h,hw=>by
  unfold runD at h
  cases hq:L.isEmpty with
  | false=>rw [hq] at h;cases h
  | true=>rw [hq,Wug] at h;injection h with h;injection h with h3 h;injection h with h4 h;subst h3 h4;exact ⟨Afa _,hw⟩
 | m+1,L,σ,s,kp,sn,hL,h,hw=>by
  unfold runD at h;split at h;rename_i r hr;split at h;rename_i o ho;split at h;rename_i σ1 k1 h1;obtain ⟨k',n',h2,hk',hn'⟩:=Jyb h;exact Xxd m _ σ1 s k' n' (by rw [Bga (Bpa hr)];omega) h2 (Whf h1 hw);cases h;cases h
  obtain ⟨j,hj⟩:∃ j,j∈candB cl ms L:=by
   cases hc:candB cl ms L with
   | nil=>rw [hc] at h;cases h
   | cons j r=>exact ⟨j,Apa⟩
  obtain ⟨k1,n1,h1,_,_⟩:=Qgb h j hj;split at h1;rename_i o ho;split at h1;rename_i σ1 s1 h2;obtain ⟨k',n',h3,hk',hn'⟩:=Jyb h1;obtain ⟨h4,h5⟩:=Wif h2 hw;obtain ⟨h6,h7⟩:=Xxd m _ σ1 s1 k' n' (by rw [Bga (List.mem_filter.1 hj).1];omega) h3 h5;exact ⟨Aha h4 h6,h7⟩;cases h1;cases h1
theorem Xyd{Z:List Da→Act→Aa→Prop}{B:Nat}{cl ms:List Nat}{ρB:Nat→Rv}{KF:List Nat}{K:Act→Aa→Prop}(hcf:CfOk P w0 cf)(hKF:∀ k∈KF,Aaa k B=true)(hK:∀ ρ' a' w',(∀ k,Aaa k B=true→ρ' k = ρB k)→Inv w0 ρ' s' w'→Kn n (ent ρ' σ') a'→K a' w') :
  ∀ (m:Nat) (L:List Nat) (σ:Sg) (s:Am) (kp:List Nat) (sn:List (List (Nat×AB)×List (Nat×AB))) (ρ:Nat→Rv) (a:Act) (w:Aa),L.length=m→runD P cf n B ops cl ms m L σ s=some (σ',s',kp,sn)→(∀ k∈kp,k∈KF)→(∀ x∈sn,∀ k∈KF,(lk x.1 k).isSome=true∧lk x.1 k=lk x.2 k)→
  Inv w0 ρ s w→Ws σ s.nx→Kn n (ent ρ σ) a→(∀ k,Aaa k B=true→ρ k = ρB k)→B≤s.nx→RT P Z ops.toArray (clOf cl) (wtOf ms) (keepR ρB KF) K m L a w
 | 0,L,σ,s,kp,sn,ρ,a,w,_,h,_,_,hi,hw,ha,hB,_=>by
  unfold runD at h
  cases hq:L.isEmpty with
  | false=>rw [hq] at h;cases h
  | true =>
   rw [hq,Wug] at h;injection h with h;injection h with h3 h;injection h with h4 h;subst h3 h4;exact ⟨by simpa using hq,hK ρ a w hB hi ha⟩
 | m+1,L,σ,s,kp,sn,ρ,a,w,hL,h,hkp,hsn,hi,hw,ha,hB,hBn=>by
  unfold runD at h;split at h;rename_i r hr;have hrL:=Bpa hr;have hrp:=List.find?_some hr;obtain ⟨hav,hrd⟩:=Aga.1 hrp;split at h;rename_i o ho;split at h;rename_i σ1 k1 h1;obtain ⟨k',n',h2,hk',hn'⟩:=Jyb h;obtain ⟨v,q1,q2,q3⟩:=Xig h1 hi ha hB fun x hx=>hkp x (by rw [hk'];exact Bfa _ hx);refine .inl ⟨r,hrL,(Yaa ms L r).1 hav,(Zic cl r).1 hrd,o,ho,v,fun hwt w1 hg=>q1 hwt w1 (hg.imp (fun e=>by rw [e];rfl) id),q2,?_⟩;exact Xyd hcf hKF hK m _ σ1 s k' n' ρ _ w (by rw [Bga hrL];omega) h2 (fun k hk=>hkp k (by rw [hk'];exact Asa _ hk)) (fun x hx=>hsn x (by rw [hn'];exact Asa _ hx)) hi (Whf h1 hw) q3 hB hBn;cases h;cases h;rename_i hnone;refine .inr ⟨fun r hr hav hrd=>?_,fun j hj hav=>?_⟩;have:=List.find?_eq_none.1 hnone r hr;rw [(Yaa ms L r).2 hav,(Zic cl r).2 hrd] at this;exact this rfl;obtain ⟨k1,n1,h1,hk1,hn1⟩:=Qgb h j (List.mem_filter.2 ⟨hj,(Yaa ms L j).2 hav⟩);split at h1;rename_i o ho;refine ⟨o,ho,?_⟩;split at h1;rename_i σ1 s1 h2;obtain ⟨k',n',h3,hk',hn'⟩:=Jyb h1;obtain ⟨h4,h5⟩:=Wif h2 hw;have hst:=Xjg (Z:=Z) hcf h2 hi hw ha
  have agr:∀ ρ1,Agr1 s.nx (B+j) ρ ρ1→∀ k,Aaa k B=true→ρ1 k = ρ k:=fun ρ1 hA k hk=>by
   refine hA k ?_;have:=Aya hk;rw [Xna hk hBn,Vja O];rfl
  have hnext:∀ a' w',Aft P w0 ρ s (B+j) n σ1 s1 a' w'→((clOf cl j == 1)=true→GX (keepR ρB KF) w w')∧RT P Z ops.toArray (clOf cl) (wtOf ms) (keepR ρB KF) K m (L.erase j) a' w':=by
   rintro a' w' ⟨ρ1,hA,hI,hkn⟩;have hA':=agr ρ1 hA;refine ⟨fun hc k hk=>?_,?_⟩;have hc1:Aba (clOf cl j) 1=true:=by rw [show clOf cl j=1 by simpa using hc];rfl
   have:=hsn (s.m,s1.m) (hn1 _ (by rw [hn',hc1];exact Bfa _ Apa)) k hk;obtain ⟨hs1,hs2⟩:=this;obtain ⟨A,hA1⟩:=Option.isSome_iff_exists.1 hs1;dsimp only at hA1 hs2;rw [hA1] at hs2;have e1:=hA' k (hKF k hk);have hcells:A.l.map (v0 ρ1)=A.l.map (v0 ρ):=Uoc hA (Xsd (hi.wf k A hA1).2 ((Xwd h2).1.m k A hA1).2);have:=(hi.ok k A hA1).same (hI.ok k A hs2.symm) e1 hcells;rw [hB k (hKF k hk)] at this;exact this;exact Xyd hcf hKF hK m _ σ1 s1 k' n' ρ1 a' w' (by rw [Bga hj];omega) h3 (fun k hk=>hkp k (hk1 k (by rw [hk'];exact Asa _ hk))) (fun x hx=>hsn x (hn1 x (by rw [hn'];exact Asa _ hx))) hI h5 hkn (fun k hk=>(hA' k hk).trans (hB k hk)) (Aha hBn h4)
  split;rename_i hwt;rw [if_pos hwt] at hst;exact Jdf hst hnext;rename_i hwt;rw [if_neg hwt] at hst;exact (hnext _ _ hst).2;cases h1;cases h1
end
inductive Ex where
  | n|r|x (id:Nat)
def ev(P:Fa)(cf:Nat→List AV→Am→Option (AV×Am))(n:Nat):Nat→Code→Sg→Am→Option (Ex×Sg×Am)
 | 0,_,_,_=>none
 | f+1,c,σ,s=>match c with
  | .skip=>some (.n,σ,s)
  | .ret=>some (.r,σ,s)
  | .exit id=>some (.x id,σ,s)
  | .region _ ops draw=>(bif draw then runG P cf n ops.toList σ s else runT P cf n ops.toList ops.toList σ s).map fun x=>(.n,x.1,x.2)
  | .seq a b=>match ev P cf n f a σ s with
   | some (.n,σ',s')=>ev P cf n f b σ' s'
   | r=>r
  | .cond x p q=>match a0 (oA σ x) with
   | some (.b b)=>ev P cf n f (bif b then p else q) σ s
   | _=>none
  | .block id c=>match ev P cf n f c σ s with
   | some (.x i,σ',s')=>some (bif Aba i id then .n else .x i,σ',s')
   | r=>r
  | .loop c=>match ev P cf n f c σ s with
   | some (.n,σ',s')=>ev P cf n f (.loop c) σ' s'
   | r=>r
  | _=>none
def argS:Nat→List AV→Sg
 | _,[]=>[]
 | k,v::vs=>(k,v)::argS (k+1) vs
def resA(P:Fa)(σ:Sg)(m:List (Nat×AB)):ResultVar→Option A1
 | .tmp t=>match lk σ t with
  | some (.v a)=>some a
  | _=>none
 | .cell t T=>(lA P σ m (.load T (.tmp t))).map (·.1)
def retI(P:Fa)(rs:List ResultVar):Ex×Sg×Am→Option (AV×Am)
 | (.r,σ,s)=>match rs with
  | []=>some (.t [],s)
  | [r]=>(resA P σ s.m r).map fun a=>(.v a,s)
  | rs=>(allO (resA P σ s.m) rs).map fun l=>(.t l,s)
 | (.n,σ,s)=>match rs with
  | []=>some (.t [],s)
  | _=>none
 | _=>none
def callF(P:Fa):Nat→Nat→List AV→Am→Option (AV×Am)
 | 0,_,_,_=>none
 | f+1,g,vs,s=>match P.funcs[g]? with
  | some fn=>match fn.body with
   | some c=>bif vs.all (okD 1 (some 0)) then (match ev P (callF P f) (vs.length+(fn.ntmps-vs.length)) 3000 c (argS 0 vs) s with
    | some r=>retI P fn.results.toList r
    | none=>none) else none
   | none=>none
  | none=>none
def Out(N:Act→Aa→Prop)(X:List (Nat×(Act→Aa→Prop)))(T:Act→Aa→Prop)(e:Ex)(a:Act)(w:Aa):Prop:=match e with
 | .n=>N a w
 | .r=>T a w
 | .x id=>∃ k,X.lookup id=some k∧k a w
section
variable {P:Fa} {cf:Nat→List AV→Am→Option (AV×Am)} {w0 w:Aa} {ρ:Nat→Rv} {s s':Am} {σ σ':Sg} {id n:Nat} {a:Act}
theorem Inv.drew(hi:Inv w0 ρ s w):Inv w0 ρ s w.drew:=⟨hi.g.trans (G.drew _),fun k B hk=>(hi.ok k B hk).heap rfl,hi.wf,hi.ne⟩
theorem Wfe{ops:List Oper}(h:runG P cf n ops σ s=some (σ',s')):okT ops (ops.map clT) (masksA ops [])=true∧∃ kp sn,runD P cf n s.nx ops (ops.map clT) (masksA ops []) ops.length (List.range ops.length) σ ⟨s.nx+ops.length,s.m⟩=some (σ',s',kp,sn)∧(∀ k∈kp,Aaa k s.nx=true)∧∀ x∈sn,∀ k∈kp,(lk x.1 k).isSome=true∧lk x.1 k=lk x.2 k:=by
 unfold runG at h
 cases hq:okT ops (ops.map clT) (masksA ops []) with
 | false=>rw [hq] at h;cases h
 | true =>
  rw [hq,Wug] at h;split at h;rename_i σ1 s1 kp sn h1
  cases hc:kp.all (fun k=>Aaa k s.nx)&&sn.all (fun x=>kp.all fun k=>(lk x.1 k).isSome&&decide (lk x.1 k=lk x.2 k)) with
  | false=>rw [hc] at h;cases h
  | true =>
   rw [hc,Wug] at h;injection h with h;injection h with h2 h3;subst h2 h3;obtain ⟨h4,h5⟩:=Aga.1 hc;refine ⟨rfl,kp,sn,h1,fun k hk=>Aca.1 h4 k hk,fun x hx k hk=>?_⟩;have:=Aca.1 (Aca.1 h5 x hx) k hk;simpa using this
  cases h
theorem Ylb:∀ (f:Nat) (c:Code) (σ:Sg) (s:Am) (e:Ex) (σ':Sg) (s':Am),ev P cf n f c σ s=some (e,σ',s')→Ws σ s.nx→s.nx≤s'.nx∧Ws σ' s'.nx
 | 0,_,_,_,_,_,_,h,_=>by cases h
 | f+1,c,σ,s,e,σ',s',h,hw=>by
  unfold ev at h;split at h;injection h with h;injection h with _ h;injection h with h1 h2;subst h1 h2;exact ⟨Afa _,hw⟩;injection h with h;injection h with _ h;injection h with h1 h2;subst h1 h2;exact ⟨Afa _,hw⟩;injection h with h;injection h with _ h;injection h with h1 h2;subst h1 h2;exact ⟨Afa _,hw⟩;rename_i draw;obtain ⟨⟨x1,x2⟩,h1,h2⟩:=Ada.1 h;injection h2 with _ h2;injection h2 with h3 h4;subst h3 h4
  cases draw with
  | true =>
   rw [Wug] at h1;obtain ⟨_,kp,sn,h5,_⟩:=Wfe h1;obtain ⟨h6,h7⟩:=Xxd _ _ _ _ kp sn Os h5 (hw.mono (Bba _ _));exact ⟨Aha (Bba _ _) h6,h7⟩
  | false=>exact Wce _ _ _ h1 hw
  split at h;rename_i σ1 s1 h1;obtain ⟨h2,h3⟩:=Ylb f _ _ _ _ _ _ h1 hw;obtain ⟨h4,h5⟩:=Ylb f _ _ _ _ _ _ h h3;exact ⟨Aha h2 h4,h5⟩;exact Ylb f _ _ _ _ _ _ h hw;split at h;exact Ylb f _ _ _ _ _ _ h hw;cases h;split at h;rename_i i σ1 s1 h1;injection h with h;injection h with _ h;injection h with h2 h3;subst h2 h3;exact Ylb f _ _ _ _ _ _ h1 hw;exact Ylb f _ _ _ _ _ _ h hw;split at h;rename_i σ1 s1 h1;obtain ⟨h2,h3⟩:=Ylb f _ _ _ _ _ _ h1 hw;obtain ⟨h4,h5⟩:=Ylb f _ _ _ _ _ _ h h3;exact ⟨Aha h2 h4,h5⟩;exact Ylb f _ _ _ _ _ _ h hw;cases h
theorem ev_ok(hcf:CfOk P w0 cf)(hm:P.follows .mixedOrders=true)(F:Nat):∀ (f:Nat),f≤F→∀ (c:Code) (σ:Sg) (s:Am) (e:Ex) (σ':Sg) (s':Am) (ρ:Nat→Rv) (w:Aa) (N:Act→Aa→Prop) (X:List (Nat×(Act→Aa→Prop))) (T:Act→Aa→Prop),ev P cf n f c σ s=some (e,σ',s')→Inv w0 ρ s w→Ws σ s.nx→
 (∀ ρ' a' w',(∀ k,Aaa k s.nx=true→ρ' k = ρ k)→Inv w0 ρ' s' w'→Kn n (ent ρ' σ') a'→Out N X T e a' w')→SC P n c N X T (ent ρ σ) w:=by
 induction F with
 | zero =>
  intro f hf c σ s e σ' s' ρ w N X T h;obtain rfl:f=0:=by omega
  cases h
 | succ F ih =>
  intro f hf c σ s e σ' s' ρ w N X T h hi hw hK
  cases f with
  | zero=>cases h
  | succ f =>
  have ihA:=ih;have ih:=ih f O;have chain:∀ {σ1:Sg} {s1:Am} {e1:Ex} {c1:Code} {ρ1 ρ2:Nat→Rv},ev P cf n f c1 σ s=some (e1,σ1,s1)→(∀ k,Aaa k s.nx=true→ρ1 k = ρ k)→(∀ k,Aaa k s1.nx=true→ρ2 k = ρ1 k)→∀ k,Aaa k s.nx=true→ρ2 k = ρ k:=fun h1 q1 q2 k hk=>(q2 k (Xna hk (Ylb f _ _ _ _ _ _ h1 hw).1)).trans (q1 k hk);have h0:=h;unfold ev at h;split at h;injection h with h;injection h with h2 h;injection h with h3 h4;subst h2 h3 h4;exact Yw fun a ha=>hK ρ a w (fun _ _=>rfl) hi ha;injection h with h;injection h with h2 h;injection h with h3 h4;subst h2 h3 h4;exact Xo fun a ha=>hK ρ a w (fun _ _=>rfl) hi ha;injection h with h;injection h with h2 h;injection h with h3 h4;subst h2 h3 h4;refine .mk fun a ha=>wp_exit ?_;obtain ⟨k,h5,h6⟩:=hK ρ a w (fun _ _=>rfl) hi ha;show match X.lookup _ with|some k=>k a w|none=>False
  rw [h5];exact h6;rename_i id ops draw;obtain ⟨⟨x1,x2⟩,h1,h2⟩:=Ada.1 h;injection h2 with h5 h2;injection h2 with h3 h4;subst h3 h4 h5
  cases draw with
  | true =>
   rw [Wug] at h1;obtain ⟨q0,kp,sn,q1,q2,q3⟩:=Wfe h1;have e:ops=ops.toList.toArray:=by simp
   rw [e];refine Xh (keepR ρ kp) _ _ hm q0 _ J (.mk fun a ha=>?_);exact Xyd hcf q2 (fun ρ' a' w' hA hI hk=>hK ρ' a' w' hA hI hk) _ _ σ _ kp sn ρ a w.drew Os q1 (fun _ h=>h) q3 (hi.drew.bump (Bba _ _)) (hw.mono (Bba _ _)) ha (fun _ _=>rfl) (Bba _ _)
  | false =>
   rw [Wtg] at h1;refine .mk fun a ha=>?_;refine Wvf (cl:=fun _=>2) (W0:=w) ?_;have:=Wde (ops:=ops.toList) (Z:=NoP) (W0:=w) hcf ops.toList 0 σ s ρ a w (fun a w=>(Qof N X T fun _ _=>False) .normal a w) Os h1 hi hw ha fun ρ' a' w' hA hI hk=>hK ρ' a' w' hA hI hk;rw [List.range_eq_range'];simpa using this
  rename_i x y;split at h;rename_i σ1 s1 h1;refine Qme fun K hKy=>ih _ σ s .n σ1 s1 ρ w K X T h1 hi hw fun ρ1 a1 w1 hA1 hI1 hk1=>?_;exact hKy (ent ρ1 σ1) w1 (ih _ σ1 s1 e σ' s' ρ1 w1 N X T h hI1 (Ylb f _ _ _ _ _ _ h1 hw).2 fun ρ2 a2 w2 hA2 hI2 hk2=>hK ρ2 a2 w2 (chain h1 hA1 hA2) hI2 hk2) a1 hk1;rename_i hne;refine Qme fun K hKy=>ih _ σ s e σ' s' ρ w K X T h hi hw fun ρ1 a1 w1 hA1 hI1 hk1=>?_;have:=hK ρ1 a1 w1 hA1 hI1 hk1
  cases e with
  | n=>exact absurd h (hne _ _)
  | _=>exact this
  split at h;rename_i b hb
  cases b with
  | true=>exact Vaf (oC hb) (ih _ σ s e σ' s' ρ w N X T h hi hw hK)
  | false=>exact Qne (oC hb) (ih _ σ s e σ' s' ρ w N X T h hi hw hK)
  cases h;rename_i id c;split at h;rename_i i σ1 s1 h1;injection h with h;injection h with h2 h;injection h with h3 h4;subst h2 h3 h4;refine Yx (ih _ σ s _ σ1 s1 ρ w N _ T h1 hi hw fun ρ1 a1 w1 hA1 hI1 hk1=>?_);have:=hK ρ1 a1 w1 hA1 hI1 hk1;by_cases hq:i=id;subst hq;rw [Ama,Wug] at this;exact ⟨N,by simp [List.lookup],this⟩;rw [Vja hq,Wtg] at this;obtain ⟨k,q1,q2⟩:=this;refine ⟨k,?_,q2⟩;rw [List.lookup_cons];have:(i == id)=false:=by simpa using hq
  rw [this];exact q1;rename_i hne;refine Yx (ih _ σ s e σ' s' ρ w N _ T h hi hw fun ρ1 a1 w1 hA1 hI1 hk1=>?_);have:=hK ρ1 a1 w1 hA1 hI1 hk1
  cases e with
  | x i=>exact absurd h (hne _ _ _)
  | _=>exact this
  rename_i c;refine Wqb (α:=(Nat×Sg×Am×(Nat→Rv))) (fun x w=>Inv w0 x.2.2.2 x.2.2.1 w∧Ws x.2.1 x.2.2.1.nx∧ev P cf n x.1 (.loop c) x.2.1 x.2.2.1=some (e,σ',s')∧(∀ k,Aaa k s.nx=true→x.2.2.2 k = ρ k)∧s.nx≤x.2.2.1.nx∧x.1≤F+1) (fun x=>ent x.2.2.2 x.2.1) (fun x=>x.1) (f+1,σ,s,ρ) ⟨hi,hw,h0,fun _ _=>rfl,Afa _,hf⟩ (fun _ _ _ h=>h) ?_;rintro ⟨g,σ1,s1,ρ1⟩ w1 ⟨hi1,hw1,he1,hA1,hn1,hg⟩;dsimp only at hi1 hw1 he1 hA1 hn1 hg ⊢
  cases g with
  | zero=>cases he1
  | succ g =>
   unfold ev at he1;dsimp only at he1;split at he1;rename_i σ2 s2 h2;obtain ⟨h3,h4⟩:=Ylb g _ _ _ _ _ _ h2 hw1;refine ihA g O _ σ1 s1 .n σ2 s2 ρ1 w1 _ X T h2 hi1 hw1 fun ρ2 a2 w2 hA2 hI2 hk2=>?_;exact ⟨(g,σ2,s2,ρ2),hk2,⟨hI2,h4,he1,fun k hk=>(hA2 k (Xna hk hn1)).trans (hA1 k hk),Aha hn1 h3,O⟩,Nat.lt_succ_self _⟩;rename_i hne;refine ihA g O _ σ1 s1 e σ' s' ρ1 w1 _ X T he1 hi1 hw1 fun ρ2 a2 w2 hA2 hI2 hk2=>?_;have:=hK ρ2 a2 w2 (fun k hk=>(hA2 k (Xna hk hn1)).trans (hA1 k hk)) hI2 hk2
   cases e with
   | n=>exact absurd he1 (hne _ _)
   | _=>exact this
  cases h
theorem Wjf{r:ResultVar}{v:A1}(h:resA P σ s.m r=some v)(hi:Inv w0 ρ s w){rs:List ResultVar}{vs:List Ga}(k:EvR P n (ent ρ σ) w rs vs):EvR P n (ent ρ σ) w (r::rs) (v1 ρ v::vs):=by
 cases r with
 | tmp t =>
  have h:(match lk σ t with|some (.v a)=>some a|_=>none)=some v:=h;split at h;rename_i a hl;injection h with h;subst h;exact Jna (by rw [Qma,hl];rfl) k;cases h
 | cell t T =>
  have h:(lA P σ s.m (.load T (.tmp t))).map (·.1)=some v:=h;obtain ⟨⟨u,k0⟩,h1,h2⟩:=Ada.1 h;dsimp only at h2;subst h2;unfold lA at h1;dsimp only at h1;split at h1;rename_i j o hp;have hx:=Zcg (ρ:=ρ) (Zdg hp);split at h1;rename_i B hB;have hr:=(hi.ok j B hB).row
  cases ht:Va P T with
  | true =>
   rw [ht,Wug] at h1;obtain ⟨a,h3,h4⟩:=Ada.1 h1;injection h4 with h4 h5;subst h4 h5;refine Xbb hx ht ?_ k;have:=hr _ (v0 ρ a) (by rw [Axa,h3];rfl);rwa [Bla] at this
  | false =>
   rw [ht,Wtg] at h1;split at h1;rename_i z h3;split at h1;rename_i hz;injection h1 with h1;injection h1 with h4 h5;subst h4 h5;exact Zra hx h3 (by rw [Aea,Bma,List.length_drop];omega) (Xye hr _ _) k;cases h1;cases h1
  cases h1;cases h1
theorem Wge(hi:Inv w0 ρ s w):∀ {rs:List ResultVar} {l:List A1},allO (resA P σ s.m) rs=some l→EvR P n (ent ρ σ) w rs (l.map (v1 ρ))∧l.length=rs.length
 | [],l,h=>by injection h with h;subst h;exact ⟨Ub,rfl⟩
 | r::rs,l,h=>by
  unfold allO at h;split at h;rename_i y l' h1 h2;injection h with h;subst h;obtain ⟨q1,q2⟩:=Wge hi h2;exact ⟨Wjf h1 hi q1,by rw [Baa,Baa,q2]⟩;cases h
theorem Uqd(ρ:Nat→Rv):∀ (k:Nat) (vs:List AV),vs.all (okD 1 (some 0))=true→ent ρ (argS k vs)=argsK k (vs.map (vA ρ))
 | _,[],_=>rfl
 | k,v::vs,h=>by
  rw [List.all_cons,Ara] at h;have ih:=Uqd ρ (k+1) vs h.2;unfold argS;rw [Aqa];unfold argsK;rw [← ih];unfold ent;rw [Aqa]
  cases v with
  | u=>cases h.1
  | _=>rfl
theorem Whe{p:Nat→Bool}:∀ (vs:List AV) (k t:Nat) (x:AV),(∀ v∈vs,usV p v=true)→lk (argS k vs) t=some x→usV p x=true
 | [],_,_,_,_,h=>by cases h
 | v::vs,k,t,x,hv,h=>by
  unfold argS lk at h
  cases hb:Aba k t with
  | true=>rw [hb] at h;injection h with h;subst h;exact hv _ Apa
  | false=>rw [hb] at h;exact Whe vs (k+1) t x (fun y hy=>hv y (Awa _ hy)) h
theorem Urd(hm:P.follows .mixedOrders=true):∀ (f:Nat),CfOk P w0 (callF P f)
 | 0=>fun g vs s v s' h=>by cases h
 | f+1=>fun g vs s v s' h ρ w hi hvs=>by
  unfold callF at h;split at h;rename_i fn hfn;split at h;rename_i c hc
  cases hq:vs.all (okD 1 (some 0)) with
  | false=>rw [hq] at h;cases h
  | true =>
   rw [hq,Wug] at h;split at h;rename_i r hr;obtain ⟨e,σ1,s1⟩:=r
   have hs1:s1=s':=by
    unfold retI at h;split at h;rename_i σ2 s2 heq;injection heq with _ heq;injection heq with h3 h4;subst h3 h4;split at h;injection h with h;injection h with _ h;obtain ⟨_,_,h4⟩:=Ada.1 h;injection h4 with _ h4;obtain ⟨_,_,h4⟩:=Ada.1 h;injection h4 with _ h4;rename_i σ2 s2 heq;injection heq with _ heq;injection heq with h3 h4;subst h3 h4;split at h;injection h with h;injection h with _ h;cases h;cases h
   subst hs1;refine Vo hfn hc J (argsK 0 (vs.map (vA ρ))) (fun _ _ _ h=>h) ?_;rw [Aea,← Uqd ρ 0 vs hq];refine ev_ok (Urd hm f) hm 3000 3000 (Afa _) c (argS 0 vs) s e σ1 s1 ρ w _ _ _ hr hi (fun t x hl=>Whe vs 0 t x hvs hl) fun ρ' a' w' hA hI hk=>?_;have post:∀ u,u=vA ρ' v→∃ ρ',(∀ k,Aaa k s.nx=true→ρ' k = ρ k)∧Inv w0 ρ' s1 w'∧u=vA ρ' v:=fun u hu=>⟨ρ',hA,hI,hu⟩;have hres:fn.results=fn.results.toList.toArray:=by simp
   unfold retI at h;split at h;rename_i σ2 s2 heq;injection heq with h2 heq;injection heq with h3 h4;subst h2 h3 h4;split at h;rename_i hz;injection h with h;injection h with h _;subst h;dsimp only [Out];refine Qoe (by rw [hres,hz]) ?_ a' hk;exact post _ rfl;rename_i r hz;obtain ⟨u,h3,h4⟩:=Ada.1 h;injection h4 with h4 _;subst h4;dsimp only [Out];refine Wea (by rw [hres,hz]) (Wjf h3 hI Ub) ?_ a' hk;exact post _ rfl;rename_i rs hn1 hn2;obtain ⟨l,h3,h4⟩:=Ada.1 h;injection h4 with h4 _;subst h4;obtain ⟨q1,q2⟩:=Wge (n:=vs.length+(fn.ntmps-vs.length)) hI h3;dsimp only [Out]
   refine Yua hres (by
    match fn.results.toList,hn1,hn2 with
    | [],hn1,_=>exact absurd rfl hn1
    | [r],_,hn2=>exact absurd rfl (hn2 r)
    | _::_::_,_,_=>rfl) q1 (by rw [Aea,q2]) ?_ a' hk
   exact post _ rfl;rename_i σ2 s2 heq;injection heq with h2 heq;injection heq with h3 h4;subst h2 h3 h4;split at h;rename_i hz;injection h with h;injection h with h _;subst h;dsimp only [Out];refine Yfa (by rw [hres,hz]) ?_ a' hk;exact post _ rfl;cases h;cases h;cases h
  cases h;cases h
end
def Usd(g:List A0→Option Nd):Nat→List A0→Option (List Nd)
 | 0,l=>bif l.isEmpty then some [] else none
 | q+1,l=>match g (l.take 9),Usd g q (l.drop 9) with
  | some t,some r=>some (t::r)
  | _,_=>none
def treeA(m:List (Nat×AB)):Nat→List A0→Option Nd
 | f+1,[.i .i64 k,.s x,.i .i64 n,.i .i64 p,ks,.i .i64 tk,.s tn,.i .i64 r,.i .i64 u]=>(match ks with
  | .e=>some []
  | .r j q=>match lk m j with
   | some ⟨e,some (z,q'),c⟩=>if e=26∧z=9∧q'=q then Usd (treeA m f) q c else none
   | _=>none
  | _=>none).map fun l=>.mk k x n p l ⟨tk,tn⟩ r u
 | _,_=>none
section
variable {w0 w:Aa} {ρ:Nat→Rv} {s:Am}
def Dn(w0 w:Aa)(k:Nat):Prop:=w0.heap.size≤k∧NdR w k
theorem Utd{g:List A0→Option Nd}{D:Nat→Prop}(hg:∀ l t,g l=some t→∃ v,l.map (v0 ρ)=ndCells t v∧Kd w D t.kids v):∀ (q:Nat) (l:List A0) (ts:List Nd),Usd g q l=some ts→KRow w D ts (l.map (v0 ρ))∧ts.length=q
 | 0,l,ts,h=>by
  unfold Usd at h
  cases l with
  | nil=>injection h with h;subst h;exact ⟨Xsb,rfl⟩
  | cons=>cases h
 | q+1,l,ts,h=>by
  unfold Usd at h;split at h;rename_i t r h1 h2;injection h with h;subst h;obtain ⟨v,h3,h4⟩:=hg _ _ h1;obtain ⟨h5,h6⟩:=Utd hg q _ r h2;refine ⟨?_,by rw [Baa,h6]⟩;have:=Uo h4 h5;rw [← h3,← Aoa,List.take_append_drop] at this;exact this;cases h
theorem Uud(hi:Inv w0 ρ s w):∀ (f:Nat) (l:List A0) (t:Nd),treeA s.m f l=some t→∃ v,l.map (v0 ρ)=ndCells t v∧Kd w (Dn w0 w) t.kids v
 | 0,l,t,h=>by cases h
 | f+1,l,t,h=>by
  unfold treeA at h;split at h;rename_i hf;injection hf with hf;subst hf;obtain ⟨ks,h1,rfl⟩:=Ada.1 h;refine ⟨_,rfl,?_⟩;show Kd w _ ks _;split at h1;injection h1 with h1;subst h1;exact Qab _ _;split at h1;rename_i e z q' c hl;split at h1;rename_i hc;obtain ⟨rfl,rfl,rfl⟩:=hc;obtain ⟨h2,h3⟩:=Utd (Uud hi f) _ _ _ h1;have hA:=hi.ok _ _ hl;have hO:=hA.2.1;refine ⟨some ⟨(ρ _).b,0,none⟩,(ρ _).c,by rw [h3];rfl,?_,fun hpos=>⟨_,0,rfl,⟨hA.1,?_⟩,_,hA.row,h2⟩⟩;rcases hO.2 with ⟨q1,_⟩|⟨g,cap,cur,q1,_,_,q2,_⟩;cases q1;injection q1 with _ _ q1;rw [h3,q1];exact q2;rcases hO.2 with ⟨q1,_⟩|⟨g,cap,cur,q1,_,q3,_⟩;cases q1;injection q1 with q1 _ _;injection q1 with q1;injection q1 with q1 _ _;rw [q1];exact ⟨_,_,q3⟩;cases h1;cases h1;cases h1;cases h
end
noncomputable def runP(s:List UInt8):Option Nd:=match callF PP 100 16 [.v (.c (.s s))] ⟨0,[]⟩ with
 | some (.t [.g l,.c (.i .i64 a),.c (.i .i64 b)],s')=>if a=0∧b=0 then treeA s'.m 60 l else none
 | _=>none
theorem Jef{s:List UInt8}{T:Nd}(h:runP s=some T)(w:Aa):Ret PP 16 #[Str s] w fun r w'=>(∃ u,r = .tuple #[u,.int .i64 0,.int .i64 0]∧RetN T w.heap.size u w')∧G w w':=by
 unfold runP at h;split at h;rename_i l a b s' hc;split at h;rename_i hz;obtain ⟨rfl,rfl⟩:=hz;have hi:Inv w (fun _=>⟨0,0,none⟩) ⟨0,[]⟩ w:=⟨G.refl w,fun k B hk=>(by cases hk),fun k B hk=>(by cases hk),fun k k' B B' hk=>(by cases hk)⟩;refine (Urd mix 100 _ _ _ _ _ hc _ w hi fun x hx=>by rw [Boa.1 hx];rfl).mono fun r w' hr=>?_;obtain ⟨ρ',_,hI,rfl⟩:=hr;obtain ⟨v,h1,h2⟩:=Uud hI _ _ _ h;refine ⟨⟨ndV T v,?_,Yzd h2⟩,hI.g⟩;show Value.tuple #[Value.agg (l.map (v0 ρ')).toArray,_,_]=_;rw [h1];rfl;cases h;cases h
theorem Wmb{s:List UInt8}{T:Nd}(hp:runP s=some T)(hc:count T≤1000000)(w:Aa)(hL:LaidW w.heap.size w):Ret PP 26 #[Str s] w fun r w'=>(∃ u,r = .tuple #[u,.int .i64 (refCheck T).2.1,.int .i64 (refCheck T).2.2]∧RetN (refCheck T).1 w.heap.size u w')∧G w w':=by
 have g:=G.refl w;refine Vo (m:=23) Tryz.func26 J J [(0,True,_)] (Za J (Zr _)) ?_;refine Zj (Zl (Xc J Zs J ?_));intro b2 w2 N2;have l2:=N2.ge g;have nat2:=N2.at_;have g:=g.trans N2.g;have E:=(Qp _).new N2;refine Yr J (Yr J (Ze (kq (Zj (Zl (Zv J (Xm J (Zu Zkd Xy (aqc J aq0) J) (Jef hp _) ?_)))))));rintro v10 w10 ⟨⟨u10,rfl,p10,c10,rfl,hk10⟩,g10⟩;refine ⟨fun _=>g10,?_⟩;have g:=g.trans g10;replace E:=E.grow g10;have hk10:Kd w10 (fun k=>k<w10.heap.size) T.kids (.slice p10 T.kids.length c10):=(Kd.mono hk10 fun k _ h=>h);refine Zv J (Qo J J (Qo J J (Qo J J (Xc J Zs J ?_))));intro b5 w5 N5;have l5:=N5.ge g;have nat5:=N5.at_;have g:=g.trans N5.g;have hk10:=hk10.grow (N5.g);replace E:=E.new N5;refine Zfa Yj J J J E.g0 ?_;intro wS1 hgS1 _ BS;replace E:=E.s0 hgS1 BS;have g:=Yu g hgS1 O;have hk10:=hk10.keep hgS1 (fun k hk _ he=>by injection he with he;have hk:k<w10.heap.size:=hk;omega);refine Yr J (Yr J (Ze (kq (Zj (Zj (Zl (Zv J (Qld J J (Ze (kq (Wz J (fun h1=>?_) (fun h1=>?_))))))))))))
 ·exact absurd h1 Od
  done
 (try simp only [bsimp] at h1);refine Yw (kq (Zj (Zl (Wm Zf J J E.g0.row (Xm J (Zu Uva Xy (aqc J aq0) J) (Ytc T _ _ _ [b2,b5] hk10 hc ((hL.grow g).top) (E.ltm Ob) g.size) ?_)))));rintro v19 w19 ⟨⟨p19,c19,rfl,q19,k19⟩,g19⟩;refine ⟨fun _=>g19,?_⟩;have g:=g.trans g19;replace E:=E.grow g19;refine Qo J J (Qo J J (Qo J J (Zfa Yj J J J E.g1 ?_)));intro wS2 hgS2 _ BS;replace E:=E.s1 hgS2 BS;have g:=Yu g hgS2 O;have k19:=k19.keep hgS2 Oi;refine Yr J (Yr J (Ze (kq (Xo (Yua (rs:=[.cell 2 26,.tmp 3,.tmp 4]) (vs:=[_,_,_]) J J (Zra J Zf J (E.g1.row) (Jna J (Jna J (Ub)))) J ?_)))));exact ⟨⟨_,rfl,Xp rfl (k19.kdN q19)⟩,g⟩
def smp6A:List UInt8:=List.append [118,97,114,32,103,32,105,110,116] (10::[102,117,110,99,32,109,97,105,110,40,41,32,123,32,120,32,58,61,32,103,59,32,102,117,110,99,40,41,32,123,32,120,32,61,32,120,32,43,32,49,32,125,40,41,32,125])
def smp6B:List UInt8:=[102,117,110,99,32,109,97,105,110,40,41,32,123,32,120,32,61,32,49,32,125]
def smp6C:List UInt8:=[102,117,110,99,32,109,97,105,110,40,41,32,123,32,120,32,58,61,32,110,105,108,32,125]
def smp6D:List UInt8:=[102,117,110,99,32,109,97,105,110,40,41,32,123,32,120,32,58,61,32,49,59,32,120,32,58,61,32,50,32,125]
def smp6E:List UInt8:=[102,117,110,99,32,102,40,41,32,123,32,125]
def useX(t:Nd):Bool:=(((decide (t.kind=27)&&decide (t.text=[120]))&&decide (t.ref=1))&&decide (t.num=0))&&decide (t.ty.kind=1)
def upS(l:List Nd):Int:=(l.map fun t=>bif useX t then t.up else 0).sum
def good(a e:Int)(T:Nd):Bool:=decide (count T≤1000000)&&(decide ((refCheck T).2.1=a)&&decide ((refCheck T).2.2=e))
def Zhg(T:Nd):Bool:=(decide (count T≤1000000)&&decide ((refCheck T).2.2=0))&&((decide (count (refCheck T).1≤1000)&&decide ((listN (refCheck T).1).length≤1000))&&(((listN (refCheck T).1).all fun t=>decide (0≤t.up)&&decide (t.up≤100))&&decide (upS (listN (refCheck T).1)=2)))
theorem Uqc{q:Nd→Bool}{x:Option Nd}(h:x.any q=true):∃ T,x=some T∧q T=true:=by
 cases x with
 | none=>cases h
 | some T=>exact ⟨T,rfl,h⟩
theorem Wdc{a e:Int}{T:Nd}(h:good a e T=true):count T≤1000000∧(refCheck T).2.1=a∧(refCheck T).2.2=e:=by
 unfold good at h;simpa using h
theorem kA:(runP smp6A).any Zhg=true:=by decide +kernel
theorem kB:(runP smp6B).any (good 14 5)=true:=by decide +kernel
theorem kC:(runP smp6C).any (good 19 7)=true:=by decide +kernel
theorem kD:(runP smp6D).any (good 22 6)=true:=by decide +kernel
theorem kE:(runP smp6E).any (good 0 5)=true:=by decide +kernel
theorem Uvd{l:List Nd}{i:Nat}(h:i<l.length):upS (l.take (i+1))=upS (l.take i)+(bif useX l[i] then l[i].up else 0):=by
 unfold upS;rw [List.take_succ_eq_append_getElem h,Aoa,List.sum_append];simp
theorem Wkf:∀ {l:List Nd},(∀ t∈l,0≤t.up∧t.up≤100)→0≤upS l∧upS l≤100*(l.length:Int)
 | [],_=>⟨Int.le_refl _,Int.le_refl _⟩
 | t::l,h=>by
  have h1:=Wkf (l:=l) fun u hu=>h u (Awa _ hu);have h2:=h t Apa;have e:upS (t::l)=(bif useX t then t.up else 0)+upS l:=by unfold upS;simp
  rw [e,Baa];cases useX t;rw [Wtg];omega;rw [Wug];omega
theorem Uze(w:Aa)(hL:LaidW w.heap.size w):Ret PP 10 #[] w fun r w'=>r = .bool true∧G w w':=by
 obtain ⟨TA,pA,gA⟩:=Uqc kA;obtain ⟨TB,pB,gB⟩:=Uqc kB;obtain ⟨TC,pC,gC⟩:=Uqc kC;obtain ⟨TD,pD,gD⟩:=Uqc kD;obtain ⟨TE,pE,gE⟩:=Uqc kE;obtain ⟨qB,rB⟩:=Wdc gB;obtain ⟨qC,rC⟩:=Wdc gC;obtain ⟨qD,rD⟩:=Wdc gD;obtain ⟨qE,rE⟩:=Wdc gE;unfold Zhg at gA;simp only [Ara,Wpg] at gA;obtain ⟨⟨qA,rA⟩,⟨hcA,hlA⟩,hup,huA⟩:=gA;obtain ⟨A,hA⟩:∃ A,A=(refCheck TA).1:=⟨_,rfl⟩;rw [← hA] at hcA hlA hup huA
 have hup:∀ t∈listN A,0≤t.up∧t.up≤100:=fun t ht=>by
  have:=Aca.1 hup t ht;simpa using this
 have g:=G.refl w;refine Vo (m:=134) Tryz.func10 J J [] (Zr _) ?_;refine Zj (Zl (Yr J (Ze (kq (Zj (Zl (Xm J (Zu Zsa Xy (aqc J aq0) J) (Wmb pA qA _ ((hL.grow g).top)) ?_)))))));rintro v20 w20 ⟨⟨u20,rfl,p20,c20,rfl,k20⟩,g20⟩;refine ⟨fun _=>g20,?_⟩;have g:=g.trans g20;have k20:Kd w20 (fun k=>k<w20.heap.size) (refCheck TA).1.kids (.slice p20 (refCheck TA).1.kids.length c20):=Kd.mono k20 fun k _ h=>h;rw [rA,← hA];rw [← hA] at k20;refine Zv J (Qo J J (Qo J J (Qo J J (Xc J Zs J ?_))));intro b1 w1 N1;have l1:=N1.ge g;have nat1:=N1.at_;have nsz1:=N1.size;have gsz1:=g.size;have g:=g.trans N1.g;have k20:=k20.grow (N1.g);have E:=(Qp _).new N1;refine Zfa Yj J J J E.g0 ?_;intro wS1 hgS1 _ BS;replace E:=E.s0 hgS1 BS;have g:=Yu g hgS1 O;have k20:=k20.keep hgS1 (fun k hk _ e=>by injection e with e;omega);refine Yr J (Yr J (Ze (kq (Zj (Zl (Xm J (Zu Zsa Xy (aqc J aq0) J) (Wmb pB qB _ ((hL.grow g).top)) ?_))))));rintro v25 w25 ⟨⟨u25,rfl,p25,c25,rfl,_⟩,g25⟩;refine ⟨fun _=>g25,?_⟩;have g:=g.trans g25;replace E:=E.grow g25;have k20:=k20.grow (g25);have sz25:=g25.size;rw [rB.1,rB.2];refine Zv J (Qo J J (Qo J J (Qo J J (Xc J Zs J ?_))));intro b4 w4 N4;have l4:=N4.ge g;have nat4:=N4.at_;have nsz4:=N4.size;have gsz4:=g.size;have g:=g.trans N4.g;have k20:=k20.grow (N4.g);replace E:=E.new N4;refine Zfa Yj J J J E.g0 ?_;intro wS2 hgS2 _ BS;replace E:=E.s0 hgS2 BS;have g:=Yu g hgS2 O;have k20:=k20.keep hgS2 (fun k hk _ e=>by injection e with e;omega);refine Yr J (Yr J (Ze (kq (Zj (Zl (Xm J (Zu Zsa Xy (aqc J aq0) J) (Wmb pC qC _ ((hL.grow g).top)) ?_))))));rintro v30 w30 ⟨⟨u30,rfl,p30,c30,rfl,_⟩,g30⟩;refine ⟨fun _=>g30,?_⟩;have g:=g.trans g30;replace E:=E.grow g30
 have k20:=k20.grow (g30);have sz30:=g30.size;rw [rC.1,rC.2];refine Zv J (Qo J J (Qo J J (Qo J J (Xc J Zs J ?_))));intro b7 w7 N7;have l7:=N7.ge g;have nat7:=N7.at_;have nsz7:=N7.size;have gsz7:=g.size;have g:=g.trans N7.g;have k20:=k20.grow (N7.g);replace E:=E.new N7;refine Zfa Yj J J J E.g0 ?_;intro wS3 hgS3 _ BS;replace E:=E.s0 hgS3 BS;have g:=Yu g hgS3 O;have k20:=k20.keep hgS3 (fun k hk _ e=>by injection e with e;omega);refine Yr J (Yr J (Ze (kq (Zj (Zl (Xm J (Zu Zsa Xy (aqc J aq0) J) (Wmb pD qD _ ((hL.grow g).top)) ?_))))));rintro v35 w35 ⟨⟨u35,rfl,p35,c35,rfl,_⟩,g35⟩;refine ⟨fun _=>g35,?_⟩;have g:=g.trans g35;replace E:=E.grow g35;have k20:=k20.grow (g35);have sz35:=g35.size;rw [rD.1,rD.2];refine Zv J (Qo J J (Qo J J (Qo J J (Xc J Zs J ?_))));intro b10 w10 N10;have l10:=N10.ge g;have nat10:=N10.at_;have nsz10:=N10.size;have gsz10:=g.size;have g:=g.trans N10.g;have k20:=k20.grow (N10.g);replace E:=E.new N10;refine Zfa Yj J J J E.g0 ?_;intro wS4 hgS4 _ BS;replace E:=E.s0 hgS4 BS;have g:=Yu g hgS4 O;have k20:=k20.keep hgS4 (fun k hk _ e=>by injection e with e;omega);refine Yr J (Yr J (Ze (kq (Zj (Zl (Xm J (Zu Zsa Xy (aqc J aq0) J) (Wmb pE qE _ ((hL.grow g).top)) ?_))))));rintro v40 w40 ⟨⟨u40,rfl,p40,c40,rfl,_⟩,g40⟩;refine ⟨fun _=>g40,?_⟩;have g:=g.trans g40;replace E:=E.grow g40;have k20:=k20.grow (g40);have sz40:=g40.size;rw [rE.1,rE.2];refine Zv J (Qo J J (Qo J J (Qo J J (Xc J Zs J ?_))));intro b13 w13 N13;have l13:=N13.ge g;have nat13:=N13.at_;have nsz13:=N13.size;have gsz13:=g.size;have g:=g.trans N13.g;have k20:=k20.grow (N13.g);replace E:=E.new N13;refine Zfa Yj J J J E.g0 ?_;intro wS5 hgS5 _ BS;replace E:=E.s0 hgS5 BS
 have g:=Yu g hgS5 O;have k20:=k20.keep hgS5 (fun k hk _ e=>by injection e with e;omega);refine Yr J (Yr J (Ze (kq (Zj (Zj (Zl (Zv J (Qld J J (Zv J (Zk J J J (fun _=>Zw (Zd J)) (Zk J J J (fun _=>Yka (Zp J id) Xa) (Zz J (fun _=>Xd (Zd J) (Zp J id)) (Zv J (Zk J J J (fun _=>Zw (Zd J)) (Zk J J J (fun _=>Yka (Zp J id) Xa) (Zz J (fun _=>Xd (Zd J) (Zp J id)) (?_)))))))))))))))));refine Zv J (Zk J J J (fun _=>Zw (Zd J)) (Zk J J J (fun _=>Yka (Zp J id) Xa) (Zz J (fun _=>Xd (Zd J) (Zp J id)) (Zv J (Zk J J J (fun _=>Zw (Zd J)) (Zk J J J (fun _=>Yka (Zp J id) Xa) (Zz J (fun _=>Xd (Zd J) (Zp J id)) (Zv J (Zk J J J (fun _=>Zw (Zd J)) (Zk J J J (fun _=>Yka (Zp J id) Xa) (Zz J (fun _=>Xd (Zd J) (Zp J id)) (Zv J (Zk J J J (fun _=>Zw (Zd J)) (Zk J J J (fun _=>Yka (Zp J id) Xa) (Zz J (fun _=>Xd (Zd J) (Zp J id)) (?_))))))))))))))));refine Zv J (Zk J J J (fun _=>Zw (Zd J)) (Zk J J J (fun _=>Yka (Zp J id) Xa) (Zz J (fun _=>Xd (Zd J) (Zp J id)) (Zv J (Zk J J J (fun _=>Zw (Zd J)) (Zk J J J (fun _=>Yka (Zp J id) Xa) (Zz J (fun _=>Xd (Zd J) (Zp J id)) (Wx [(0,_,_),(1,_,_),(77,_,_)] (Za J (Za J (Za J (Zr _)))) (Ze (kq (Wz J (fun h1=>?_) (fun h1=>?_))))))))))))
 ·exact absurd h1 Od
  done
 (try simp only [bsimp] at h1);refine Yw (kq (Zj (Zl (Wm Zf J J E.g4.row (Xm J (Zu Xfb Xy (aqc J aq0) J) (Wvd A _ (fun k=>k<w20.heap.size) _ k20 O) ?_)))));rintro v79 w79 ⟨hk79,g79⟩;refine ⟨fun _=>g79,?_⟩;have g:=g.trans g79;replace E:=E.grow g79;obtain ⟨p79,c79,rfl,_⟩:=id hk79;refine Yr J (Ze (kq (Zj (Zl (Yr J (Ze (kq (Zj (Zj (Zl (Yr J (Ze (kq (Yx (Vv (fun (i:Nat) u1=>(i≤(listN A).length)∧G w79 u1) [(0,True,_),(16,True,_)] (fun (i:Nat)=>[(17,True,.int .i64 (upS ((listN A).take i))),(18,True,.int .i64 i)]) (fun (i:Nat)=>(listN A).length-i) (0) ⟨Bia _,G.refl _⟩ (Za J (Za J (Za J (Za J (Zr _))))) ?_)))))))))))))));rintro i u1 ⟨hI1,gl1⟩;have g:=g.trans gl1;replace E:=E.grow gl1;have hk79:=hk79.grow gl1;refine Zj (Zj (Zl (Zv J (Zv J (Yha Zc J (Uua J J (Ze (kq (Wz J (fun h2=>?_) (fun h2=>?_))))))))))
 ·replace h2:i<(listN A).length:=by simp only [Wpg] at h2;omega
  obtain ⟨e0,p1,c1,hcell,_⟩:=Yq (t:=lT (listN A)) hk79 (i:=i) h2;have eL:Zb (lT (listN A)) i=(listN A)[i]:=Yz (t:=lT (listN A)) h2;rw [eL] at hcell;have hb1:=Wkf (l:=(listN A).take i) fun t ht=>hup t (List.mem_of_mem_take ht);have hb2:=hup _ (Aja h2);have hb3:((listN A).take i).length≤1000:=by rw [Bma];omega
  refine Yw (kq (Zj (Yx (Zj (Zl (Zv J (Zv J (Zma Zc J J O e0 (Xg Xi J (Xl Yf J (hcell.one (i:=0) J) (Zea J J (Zv J (Zk J J J (fun _=>Zw (Zd J)) (Zk J J J (fun _=>Zw (Zd J)) (Zk J J J (fun _=>Yv Zc (Zp J id) (Zp J id) (fun _=>O) (fun _=>e0)) (Zk J J J (fun _=>Zi Xe (Zp J id)) (?_)))))))))))))))));refine Yg J J J (Zq Yy (Zp J id) (fun _=>hcell.one (i:=1) J)) (Zk J J J (fun _=>Ulb (Zp J id) Xa) (Zz J (fun _=>Yn (Zd J) (Zp J id)) (Zv J (Zk J J J (fun _=>Zw (Zd J)) (Zk J J J (fun _=>Zw (Zd J)) (Zk J J J (fun _=>Yv Zc (Zp J id) (Zp J id) (fun _=>O) (fun _=>e0)) (Zk J J J (fun _=>Zi Zba (Zp J id)) (Yg J J J (Zq Yf (Zp J id) (fun _=>hcell.one (i:=7) J)) (Zk J J J (fun _=>Zoa (Zp J id) Xa) (Zz J (fun _=>Yn (Zd J) (Zp J id)) (Zv J (Zk J J J (fun _=>Zw (Zd J)) (Zk J J J (fun _=>Zw (Zd J)) (Zk J J J (fun _=>Yv Zc (Zp J id) (Zp J id) (fun _=>O) (fun _=>e0)) (Zk J J J (fun _=>Zi Ur (Zp J id)) (?_))))))))))))))));refine Yg J J J (Zq Yf (Zp J id) (fun _=>hcell.one (i:=2) J)) (Zk J J J (fun _=>Zoa (Zp J id) Xa) (Zz J (fun _=>Yn (Zd J) (Zp J id)) (Zv J (Zk J J J (fun _=>Zw (Zd J)) (Zk J J J (fun _=>Zw (Zd J)) (Zk J J J (fun _=>Yv Zc (Zp J id) (Zp J id) (fun _=>O) (fun _=>e0)) (Zk J J J (fun _=>Zi Yk (Zp J id)) (Zk J J J (fun _=>Zi Vyb (Zp J id)) (Yg J J J (Zq Yf (Zp J id) (fun _=>hcell.one (i:=5) J)) (Zk J J J (fun _=>Zoa (Zp J id) Xa) (Zz J (fun _=>Yn (Zd J) (Zp J id)) (Ze (kq (Wz J (fun h3=>?_) (fun h3=>?_)))))))))))))))
  ·have hu:useX (listN A)[i]=true:=h3
   refine Zl (Zv J (Zv J (Zv J (Zma Zc J J O e0 (Xg Jka J (Xl Yf J (hcell.one (i:=8) J) (Jga J J O (Yr J (Ze (kq (Zl (Zv J (Jga J J O (Yr J (Wx [(17,_,_),(18,_,_),(0,_,_),(16,_,_)] (Za J (Za J (Za J (Za J (Zr _))))) (Ze (fun a ha=>?_)))))))))))))))));exact ⟨i+1,by rw [Uvd h2,hu,Wug];exact ha,⟨h2,gl1⟩,O⟩
  have hu:useX (listN A)[i]=false:=h3;refine Yw (kq (Zl (Zv J (Jga J J O (Yr J (Wx [(17,_,_),(18,_,_),(0,_,_),(16,_,_)] (Za J (Za J (Za J (Za J (Zr _))))) (Ze (fun a ha=>?_))))))));exact ⟨i+1,by rw [Uvd h2,hu,Wtg,Int.add_zero];exact ha,⟨h2,gl1⟩,O⟩
 replace h2:i=(listN A).length:=by simp only [Wqg] at h2;omega
 subst h2;refine Xea J (kq (Zj (Zl (Zv J (Zea J J (Yr J (Ze (kq (Xo (Wj J J ?_))))))))));rw [List.take_length,huA];exact ⟨rfl,g⟩
theorem Xzd(t:Nd):(plainT t).kind=t.kind:=by rw [Xba];rfl
theorem Wie(t:Nd):(plainT t).text=t.text:=by rw [Xba];rfl
theorem Wlf(t:Nd):(plainT t).pos=t.pos:=by rw [Xba];rfl
theorem Xkg:plainT nd0=nd0:=by rw [Xba];rfl
theorem Uwd{α β:Type}(f:α→β)(l:List α)(i:Nat)(d:α)(e:β)(h:f d=e):(l.map f).getD i e=f (l.getD i d):=by
 rw [Bha,Axa,Bha]
 cases l[i]? with
 | none=>exact h.symm
 | some k=>rfl
theorem Urc(t:Nd)(i:Nat):Zb (plainT t) i=plainT (Zb t i):=by
 unfold Zb;rw [Qcb];exact Uwd plainT t.kids i nd0 nd0 Xkg
section
variable (F t:Nd) (x:Nat→Ck)
end
theorem Wje:∀ t,endT (plainT t)=endT t:=by
 refine Nd.ind fun t ih=>?_;rw [Yca,Yca t,Qcb,List.map_map,Bka (f:=endT ∘ plainT) (g:=endT) fun k hk=>ih k hk];unfold endP;simp only [Xzd,Urc]
def Al(x t:Nd):Prop:=plainT x=plainT t
structure Pl (t:Nd) (c:Ck):Prop where
  ex:exprB t=true→∀ S,Al (c.ex S).1 t
  mem:t.kind=28→exprB t=true→∀ S,Al (c.mem S).1.1 t
  rcv:t.kind≠28→exprB t=true→∀ S,(c.rcv S).2=true→Al (c.rcv S).1 t
  cal:exprB t=true→∀ S,Al (c.cal S).1.1 t
  st:stmtB t=true→∀ S,Al (c.st S).1 t
  blk:blockB t=true→∀ S,Al (c.blk S).1 t
  ifs:ifB t=true→∀ S,Al (c.ifs S).1 t
  sts:blockB t=true→∀ S,Al (c.sts S).1 t
  cas:Zya t=true→∀ f S,Al (c.cas f S).1 t
theorem kid_1{t:Nd}(h:t.kids.length=1):t.kids=[Zb t 0]:=by
 unfold Zb
 match t.kids,h with
 | [a],_=>rfl
section
variable {F t:Nd} {x:Nat→Ck} {S:CSt}
theorem Jff{t:Nd}(hx:exprB t=true)(h24:t.kind≠24)(h25:t.kind≠25)(h26:t.kind≠26)(h38:t.kind≠38)(h30:t.kind≠30)(h27:t.kind≠27)(h28:t.kind≠28)(h34:t.kind≠34):t.kind∈([29,31,32,33,35,36,37]:List Int):=by
 have hx:=(Aga.1 hx).1;unfold expK at hx;rw [Zbb] at hx;simp only [Aka,Ava,or_false] at hx ⊢;omega
theorem Jgf{t:Nd}(hb:stmtB t=true)(h10:t.kind≠10)(h18:t.kind≠18)(h12:t.kind≠12)(h22:t.kind≠22)(h6:t.kind≠6)(h11:t.kind≠11)(h19:t.kind≠19)(h20:t.kind≠20)(h16:t.kind≠16):t.kids.length=1∧exprB (Zb t 0)=true:=by
 have hx:=(Aga.1 hb).1;unfold stK at hx;rw [Zbb] at hx;simp only [Aka,Ava,or_false] at hx;rcases hx with e|e|e|e|e|e|e|e|e|e|e|e|e|e;exact absurd e h6;exact absurd e h10;exact absurd e h11;exact absurd e h12;exact sh13 e hb;exact sh14 e hb;exact sh15 e hb;exact absurd e h16;exact sh17 e hb;exact sh21 e hb;exact absurd e h18;exact absurd e h19;exact absurd e h20;exact absurd e h22
end
theorem Usc{F:Nd}(h:validB F=true):F.kind=1∧permF F=true:=by
 unfold validB permB at h;simp only [Ara,Wpg] at h;exact ⟨h.1,h.2.1⟩
def tqB(x:Nd):Bool :=
 (!decide (x.kind=27) || !decide (x.ref=0))&&(!decide (x.kind=12) || (decide ((x.kids.length:Int)=2)&&Us (Zb x 0).ty (Zb x 1).ty)) &&
 (!decide (x.kind=32) || (decide ((x.kids.length:Int)=2)&&((binT x.text (Zb x 0).ty (Zb x 1).ty).2&&tyEqB (binT x.text (Zb x 0).ty (Zb x 1).ty).1 x.ty)))
def AllQ(x:Nd):Prop:=∀ y∈listN x,tqB y=true
structure Tp (t:Nd) (c:Ck):Prop where
  ex:exprB t=true→∀ S,(c.ex S).2.ee=0→AllQ (c.ex S).1
  mem:t.kind=28→exprB t=true→∀ S,(c.mem S).2.ee=0→AllQ (c.mem S).1.1
  rcv:t.kind≠28→exprB t=true→∀ S,(c.rcv S).2=true→AllQ (c.rcv S).1
  cal:exprB t=true→∀ S,(c.cal S).2.ee=0→AllQ (c.cal S).1.1
  st:stmtB t=true→∀ S,(c.st S).2.ee=0→AllQ (c.st S).1
  blk:blockB t=true→∀ S,(c.blk S).2.ee=0→AllQ (c.blk S).1
  ifs:ifB t=true→∀ S,(c.ifs S).2.ee=0→AllQ (c.ifs S).1
  sts:blockB t=true→∀ S,(c.sts S).2.ee=0→AllQ (c.sts S).1
  cas:Zya t=true→∀ f S,(c.cas f S).2.ee=0→AllQ (c.cas f S).1
theorem Er.z{S T:CSt}(h:Er S T)(h0:T.ee=0):S.ee=0:=Decidable.byContradiction fun hn=>hn ((h hn).1.symm.trans h0)
theorem fs0{a e:Int}{S:CSt}(h:(failS a e S).ee=0)(he:e≠0:=by decide):False:=Ucd he h
section
variable {F t:Nd} {x:Nat→Ck} {S:CSt}
end
theorem Yuc{F:Nd}(hv:validB F=true):∀ d∈F.kids,(d.kind=2∨d.kind=6∨d.kind=4)∧(d.kind=6→fileVarB d=false)∧permF d=true:=fun d hd=>by
 obtain ⟨h1,hp⟩:=Usc hv;have hf:=Upa hp;rw [formB,h1] at hf;have hf:((!(F.kids.any fileVarB)&&everyB F (memK [2,6,4]))&&F.kids.all permF)=true:=hf;simp only [Ara,Bool.not_eq_true',List.any_eq_false,everyB,Aca,memK,Wpg] at hf;have hk:=hf.1.2 d hd;simp only [Aka,Ava,or_false] at hk;exact ⟨hk,fun _=>by simpa using hf.1.1 d hd,hf.2 d hd⟩
structure Hq (t t':Nd):Prop where
  kind:t'.kind=t.kind
  text:t'.text=t.text
  of:ofF t'=ofF t
inductive InR (u:List UInt8→Bool):Nd→Nd→Prop
  | nd {t t':Nd} (h:Hq t t') (hu:u t.text=false) (hl:t'.kids.length=t.kids.length) (hk:∀ i,i<t.kids.length→InR u (Zb t i) (Zb t' i)):InR u t t'
  | bl {t t':Nd} (h:Hq t t') (hu:u t.text=false) (ht:t.kind=10) (hd:(Zb t' 0).kind=6∧u (Zb t' 0).text=true∧(Zb (Zb t' 0) 0).kind=7∧Ux (ofF (Zb (Zb t' 0) 0)).1=true∧(Zb (Zb t' 0) 1).kind=9) (hl:t'.kids.length=t.kids.length+1) (hk:∀ i,i<t.kids.length→InR u (Zb t i) (Zb t' (i+1))):InR u t t'
theorem InR.hq{u:List UInt8→Bool}{t t':Nd}(h:InR u t t'):Hq t t':=by cases h <;> assumption
theorem InR.u{u:List UInt8→Bool}{t t':Nd}(h:InR u t t'):u t.text=false:=by cases h <;> assumption
theorem Hq.refl(t:Nd):Hq t t:=⟨rfl,rfl,rfl⟩
theorem Jzb{t:Nd}{i:Nat}(h:¬ i<t.kids.length):Zb t i=nd0:=by unfold Zb;simp only [Bha];rw [Bta O];rfl
structure Nk (u:List UInt8→Bool) (t t':Nd):Prop where
  h:Hq t t'
  n:u t.text=false
  l:t'.kids.length=t.kids.length
  k:∀ i,i<t.kids.length→InR u (Zb t i) (Zb t' i)
theorem Nk.q{u:List UInt8→Bool}{t t':Nd}(h:Nk u t t')(i:Nat):Hq (Zb t i) (Zb t' i):=by
 by_cases hi:i<t.kids.length;exact (h.k i hi).hq;rw [Jzb hi,Jzb (by rw [h.l];exact hi)];exact Hq.refl _
theorem InR.node{u:List UInt8→Bool}{t t':Nd}(h:InR u t t')(hk:t.kind≠10):Nk u t t':=by
 cases h with
 | nd h hu hl hk=>exact ⟨h,hu,hl,hk⟩
 | bl h hu ht=>exact absurd ht hk
/-! states -/
def er(v:Vr):List UInt8×Ty×Nat:=(v.name,v.typ,v.scope)
structure RU (u:List UInt8→Bool) (S S':CSt):Prop where
  vars:(S'.vars.filter fun v=>!u v.name).map er=S.vars.map er
  scope:S'.scope=S.scope
  result:S'.result=S.result
  ee:S'.ee=S.ee
  sc:Sc S
  sc':Sc S'
def NU(u:List UInt8→Bool)(S:CSt):Prop:=∀ v∈S.vars,v.scope=S.scope→u v.name=false
theorem Jz(a e:Int)(S:CSt):(failS a e S).ee=bif decide (S.ee=0) then e else S.ee:=by unfold failS;cases decide (S.ee=0) <;> rfl
section
variable {u:List UInt8→Bool} {S S' U U':CSt}
theorem RU.frame(h:RU u S S')(h1:Vs S U)(h2:U.result=S.result)(k1:Vs S' U')(k2:U'.result=S'.result)(he:U'.ee=U.ee):RU u U U' :=
 ⟨by rw [k1.vars,h1.vars];exact h.vars,by rw [k1.scope,h1.scope,h.scope],by rw [k2,h2,h.result],he,h1.sc h.sc,k1.sc h.sc'⟩
theorem RU.fail(h:RU u S S')(a a' e:Int):RU u (failS a e S) (failS a' e S') :=
 h.frame (Yud a e S) (Qu a e S).2.2.2.2.1 (Yud a' e S') (Qu a' e S').2.2.2.2.1 (by rw [Jz,Jz,h.ee])
theorem RU.failu(h:RU u S S'){b b':Bool}(hb:b'=b)(a a' e:Int):RU u (failU b a e S) (failU b' a' e S'):=by
 subst hb;cases b';exact h.fail a a' e;exact h
theorem RU.open(h:RU u S S'):RU u (openS S) (openS S'):=⟨h.vars,congrArg (· + 1) h.scope,h.result,h.ee,Yeb h.sc,Yeb h.sc'⟩
theorem NU.open(h:RU u S S'):NU u (openS S'):=fun v hv he=>by have:=h.sc' v hv;have he:v.scope=S'.scope+1:=he;omega
theorem NU.vs(h:NU u S)(k:Vs S U):NU u U:=fun v hv he=>h v (k.vars▸hv) (he.trans k.scope)
theorem NU.decl(h:NU u S){s:List UInt8}(hs:u s=false)(y:Ty)(a:Int):NU u (declS s y a S):=fun v hv he=>by
 have hv:v∈S.vars++[⟨s,y,declN S,S.level,S.scope⟩]:=hv;have e:(declS s y a S).scope=S.scope:=(Yra s y a S).scope;rcases List.mem_append.1 hv with q|q;exact h v q (he.trans e);rw [Boa.1 q];exact hs
theorem Uxd(l:List Vr)(s:List UInt8):(findV l s).map er=(l.map er).reverse.find? fun k=>decide (k.1=s):=by
 unfold findV;rw [← List.map_reverse,List.find?_map];rfl
theorem Qae(l:List Vr){s:List UInt8}(hs:u s=false):findV (l.filter fun v=>!u v.name) s=findV l s:=by
 unfold findV;rw [← List.filter_reverse,List.find?_filter];congr 1;funext v;by_cases h:v.name=s;simp [h,hs];simp [h]
theorem RU.look(h:RU u S S'){s:List UInt8}(hs:u s=false):(findV S'.vars s).map er=(findV S.vars s).map er:=by
 rw [← Qae S'.vars hs,Uxd,h.vars,← Uxd]
theorem RU.dup(h:RU u S S'){s:List UInt8}(hs:u s=false):dupV S' s=dupV S s:=by
 have e1:∀ (l:List Vr) (n:Nat),(l.any fun v=>decide (v.scope=n)&&decide (v.name=s))=(l.map er).any fun k=>decide (k.2.2=n)&&decide (k.1=s):=fun l n=>by rw [List.any_map];rfl
 have e2:(S'.vars.any fun v=>decide (v.scope=S'.scope)&&decide (v.name=s))=((S'.vars.filter fun v=>!u v.name).any fun v=>decide (v.scope=S'.scope)&&decide (v.name=s)):=by
  rw [List.any_filter];congr 1;funext v;by_cases h:v.name=s;simp [h,hs];simp [h]
 unfold dupV;rw [e2,e1,h.vars,← e1,h.scope]
theorem Jhf{s s':List UInt8}{y y':Ty}{a a':Int}(h:S'.ee=S.ee)(hd:dupV S' s'=dupV S s):(declS s' y' a' S').ee=(declS s y a S).ee:=by
 show (failU (!dupV S' s') a' 6 S').ee=(failU (!dupV S s) a 6 S).ee;rw [hd];cases (!dupV S s);show (failS a' 6 S').ee=(failS a 6 S).ee;rw [Jz,Jz,h];exact h
theorem RU.decl(h:RU u S S'){s:List UInt8}(hs:u s=false)(y:Ty)(a a':Int):RU u (declS s y a S) (declS s y a' S'):=by
 refine ⟨?_,(Yra s y a' S').scope.trans (h.scope.trans (Yra s y a S).scope.symm),?_,Jhf h.ee (h.dup hs),(Yra s y a S).sc h.sc,(Yra s y a' S').sc h.sc'⟩;show ((S'.vars++[(⟨s,y,declN S',S'.level,S'.scope⟩:Vr)]).filter fun v=>!u v.name).map er=(S.vars++[(⟨s,y,declN S,S.level,S.scope⟩:Vr)]).map er;rw [Bua,Aoa,Aoa,h.vars];have e:([(⟨s,y,declN S',S'.level,S'.scope⟩:Vr)].filter fun v=>!u v.name)=[⟨s,y,declN S',S'.level,S'.scope⟩]:=by simp [hs]
 rw [e];show _++[(s,y,S'.scope)]=_++[(s,y,S.scope)];rw [h.scope];exact ((Qd _ _ _ S').2.2.2.2.1).trans (h.result.trans ((Qd _ _ _ S).2.2.2.2.1).symm)
theorem RU.decl1(h:RU u S S')(hn:NU u S'){s:List UInt8}(hs:u s=true)(y:Ty)(a:Int):RU u S (declS s y a S'):=by
 have hd:dupV S' s=false:=by
  unfold dupV;rw [List.any_eq_false];intro v hv hq;simp only [Ara,Wpg] at hq;have:=hn v hv hq.1;rw [hq.2,hs] at this;cases this
 have e:declS s y a S' = { S' with next:=S'.next.set S'.level (declN S'+1),vars:=S'.vars++[⟨s,y,declN S',S'.level,S'.scope⟩] }:=by unfold declS;rw [hd];rfl
 refine ⟨?_,(Yra s y a S').scope.trans h.scope,by rw [e];exact h.result,by rw [e];exact h.ee,h.sc,(Yra s y a S').sc h.sc'⟩;show ((S'.vars++[(⟨s,y,declN S',S'.level,S'.scope⟩:Vr)]).filter fun v=>!u v.name).map er=S.vars.map er;have e:([(⟨s,y,declN S',S'.level,S'.scope⟩:Vr)].filter fun v=>!u v.name)=[]:=by simp [hs]
 rw [Bua,e,List.append_nil,h.vars]
theorem RU.lit(h:RU u S S'):RU u (litS S) (litS S'):=⟨h.vars,h.scope,rfl,h.ee,h.sc,h.sc'⟩
theorem RU.unlit(h:RU u S S')(k:RU u U U'):RU u { U with level:=U.level-1,result:=S.result } { U' with level:=U'.level-1,result:=S'.result }:=⟨k.vars,k.scope,h.result,k.ee,k.sc,k.sc'⟩
end
def Hd(x y:Nd):Prop:=y.kind=x.kind∧y.ty=x.ty∧y.ref=x.ref
theorem Hd.refl(x:Nd):Hd x x:=⟨rfl,rfl,rfl⟩
theorem Xoa{t t':Nd}(h:t'.kind=t.kind)(ks ks':List Nd){y y':Ty}(hy:y'=y):Hd (annT t ks y) (annT t' ks' y'):=⟨h,hy,rfl⟩
structure FlR (F F':Nd):Prop where
  s2:∀ s,decide ((findD F' 2 s).2<0)=decide ((findD F 2 s).2<0)
  s6:∀ s,decide (0≤(findD F' 6 s).2)=decide (0≤(findD F 6 s).2)
  t6:∀ s,(ofF (Zb (findD F' 6 s).1 0)).1=(ofF (Zb (findD F 6 s).1 0)).1
  s4:∀ s,decide (0≤(findD F' 4 s).2)=decide (0≤(findD F 4 s).2)
  p4:∀ s,(Zb (findD F' 4 s).1 0).kids.map (fun p=>(ofF (Zb p 0)).1)=(Zb (findD F 4 s).1 0).kids.map (fun p=>(ofF (Zb p 0)).1)
  r4:∀ s,ofF (Zb (findD F' 4 s).1 1)=ofF (Zb (findD F 4 s).1 1)
  k4:∀ s,(Zb (findD F' 4 s).1 1).kind=(Zb (findD F 4 s).1 1).kind
  fl:∀ s,Ut F' s=Ut F s
theorem FlR.f4{F F':Nd}(H:FlR F F')(s:List UInt8):fncTy (findD F' 4 s).1=fncTy (findD F 4 s).1:=by
 have e:=congrArg List.length (H.p4 s);rw [Aea,Aea] at e;unfold fncTy;rw [e,H.k4]
structure UnC (u:List UInt8→Bool) (t:Nd) (c c':Ck):Prop where
  ex:exprB t=true→∀ S S',RU u S S'→RU u (c.ex S).2 (c'.ex S').2∧Hd (c.ex S).1 (c'.ex S').1
  mem:t.kind=28→exprB t=true→∀ S S',RU u S S'→RU u (c.mem S).2 (c'.mem S').2∧(c'.mem S').1.2=(c.mem S).1.2∧Hd (c.mem S).1.1 (c'.mem S').1.1
  rcv:exprB t=true→∀ S S',RU u S S'→(c'.rcv S').2=(c.rcv S).2∧Hd (c.rcv S).1 (c'.rcv S').1
  cal:exprB t=true→∀ S S',RU u S S'→RU u (c.cal S).2 (c'.cal S').2∧(c'.cal S').1.2=(c.cal S).1.2
  st:stmtB t=true→∀ S S',RU u S S'→RU u (c.st S).2 (c'.st S').2∧(NU u S'→NU u (c'.st S').2)
  blk:blockB t=true→∀ S S',RU u S S'→RU u (c.blk S).2 (c'.blk S').2
  ifs:ifB t=true→∀ S S',RU u S S'→RU u (c.ifs S).2 (c'.ifs S').2
  sts:blockB t=true→∀ S S',RU u S S'→NU u S'→RU u (c.sts S).2 (c'.sts S').2
  cas:Zya t=true→∀ f S S',RU u S S'→RU u (c.cas f S).2 (c'.cas f S').2
section
variable {u:List UInt8→Bool} {F F' t t':Nd} {S S':CSt}
theorem Zue(H:FlR F F'){k k':Nd}(hk:Hq k k')(h:RU u S S'):RU u (pointerS F k S) (pointerS F' k' S'):=by
 unfold pointerS;rw [hk.kind,hk.text];cases decide (k.kind=8);exact h;exact h.failu (by rw [H.s2]) _ _ _
theorem Utc(H:FlR F F'){k k':Nd}(hk:Hq k k')(h:RU u S S'):RU u (localS F k S) (localS F' k' S'):=(Zue H hk h).failu (by rw [hk.of]) _ _ _
theorem Wad(H:FlR F F')(ht:Hq t t')(hu:u t.text=false)(h:RU u S S'):(lookR F' S' t').2=(lookR F S t).2∧Hd (lookR F S t).1 (lookR F' S' t').1:=by
 have hv:=h.look hu;unfold lookR;rw [ht.text]
 cases h1:findV S.vars t.text with
 | some v =>
  rw [h1] at hv
  cases h2:findV S'.vars t.text with
  | none=>rw [h2] at hv;cases hv
  | some w =>
   rw [h2] at hv;injection hv with hv;have hy:w.typ=v.typ:=congrArg (fun k:List UInt8×Ty×Nat=>k.2.1) hv;exact ⟨rfl,ht.kind,hy,rfl⟩
 | none =>
  rw [h1] at hv
  cases h2:findV S'.vars t.text with
  | some w=>rw [h2] at hv;cases hv
  | none =>
   dsimp only;rw [H.s6,H.s4,H.t6,H.f4];cases decide (0≤(findD F 6 t.text).2);cases decide (0≤(findD F 4 t.text).2);exact ⟨rfl,ht.kind,rfl,rfl⟩;exact ⟨rfl,ht.kind,rfl,rfl⟩;exact ⟨rfl,ht.kind,rfl,rfl⟩
theorem Zve(H:FlR F F')(N:Nk u t t')(U:∀ i,UnC u (Zb t i) (ckX F t i) (ckX F' t' i))(ht:t.kind=28)(hx:exprB t=true)(h:RU u S S') :
 RU u (memR F t (ckX F t) S).2 (memR F' t' (ckX F' t') S').2∧(memR F' t' (ckX F' t') S').1.2=(memR F t (ckX F t) S).1.2∧Hd (memR F t (ckX F t) S).1.1 (memR F' t' (ckX F' t') S').1.1:=by
 obtain ⟨_,hl,h0⟩:=sh28 ht hx;obtain ⟨a,b⟩:=(U 0).ex h0 S S' h;unfold memR;dsimp only;rw [b.2.1,N.h.text,H.fl];cases decide (((ckX F t 0).ex S).1.ty.kind=4);exact ⟨a.fail _ _ _,rfl,Xoa N.h.kind _ _ rfl⟩;simp only [Wug];split;exact ⟨a,rfl,Xoa N.h.kind _ _ rfl⟩;exact ⟨a.fail _ _ _,rfl,Xoa N.h.kind _ _ rfl⟩
theorem Xlg(H:FlR F F')(N:Nk u t t')(U:∀ i,UnC u (Zb t i) (ckX F t i) (ckX F' t' i))(hx:exprB t=true)(h:RU u S S') :
 (rcvR F' t' (ckX F' t') S').2=(rcvR F t (ckX F t) S).2∧Hd (rcvR F t (ckX F t) S).1 (rcvR F' t' (ckX F' t') S').1:=by
 unfold rcvR;rw [N.h.kind];cases h27:decide (t.kind=27);cases h28:decide (t.kind=28);exact ⟨rfl,Hd.refl _⟩;obtain ⟨a,b,c⟩:=Zve H N U (Wrg h28) hx h;simp only [Wtg,Wug];rw [b,a.ee,c.2.1];exact ⟨rfl,c⟩;obtain ⟨b,c⟩:=Wad H N.h N.n h;simp only [Wug];rw [b,c.2.1,c.2.2];exact ⟨rfl,c⟩
theorem Wmf(N:Nk u t t')(U:∀ i,UnC u (Zb t i) (ckX F t i) (ckX F' t' i))(hk:t.kids.all exprB=true)(ps:List Ty)(h:RU u S S'):∀ i,i+1≤t.kids.length→RU u (argA t (ckX F t) ps S i).2 (argA t' (ckX F' t') ps S' i).2
 | 0,_=>h
 | i+1,hi=>by
  obtain ⟨a,b⟩:=(U (i+1)).ex (Vg hk O) _ _ (Wmf N U hk ps h i O);rw [argA,argA];exact a.failu (by rw [b.2.1]) _ _ _
theorem Jif(N:Nk u t t')(U:∀ i,UnC u (Zb t i) (ckX F t i) (ckX F' t' i))(ht:t.kind=30)(hx:exprB t=true)(h:RU u S S') :
 RU u (callR t (ckX F t) S).2 (callR t' (ckX F' t') S').2∧Hd (callR t (ckX F t) S).1 (callR t' (ckX F' t') S').1:=by
 obtain ⟨h1,h2⟩:=sh30 ht hx;obtain ⟨a,b⟩:=(U 0).cal (Vg h2 h1) S S' h;unfold callR;dsimp only;rw [b,N.l];exact ⟨Wmf N U h2 _ (a.failu rfl _ _ _) _ O,Xoa N.h.kind _ _ rfl⟩
theorem Jjf(N:Nk u t t')(U:∀ i,UnC u (Zb t i) (ckX F t i) (ckX F' t' i))(ht:t.kind=38)(hx:exprB t=true)(h:RU u S S') :
  RU u (litR t (ckX F t) S).2 (litR t' (ckX F' t') S').2∧Hd (litR t (ckX F t) S).1 (litR t' (ckX F' t') S').1 :=
 ⟨h.unlit ((U 0).blk (sh38 ht hx).2 _ _ h.lit),Xoa N.h.kind _ _ rfl⟩
theorem un_op(N:Nk u t t')(U:∀ i,UnC u (Zb t i) (ckX F t i) (ckX F' t' i))(hx:exprB t=true)(hk:t.kind∈([29,31,32,33,35,36,37]:List Int))(h:RU u S S') :
 RU u (opR t (ckX F t) S).2 (opR t' (ckX F' t') S').2∧Hd (opR t (ckX F t) S).1 (opR t' (ckX F' t') S').1:=by
 have eu:unTy t'=unTy t:=by unfold unTy;rw [N.h.text]
 have A:=fun k=>(U 0).ex k S S' h;unfold opR;dsimp only [wantS];rw [N.h.kind,N.h.text,eu];cases h29:decide (t.kind=29)
 case true =>
  obtain ⟨hl,k0,k1⟩:=sh29 (Wrg h29) hx;obtain ⟨a,b⟩:=A k0;obtain ⟨c,d⟩:=(U 1).ex k1 _ _ (a.failu (b:=decide (((ckX F t 0).ex S).1.ty.kind=5)) (b':=decide (((ckX F' t' 0).ex S').1.ty.kind=5)) (by rw [b.2.1]) (Zb t 0).pos (Zb t' 0).pos 7);exact ⟨c.failu (by rw [d.2.1]) _ _ _,Xoa N.h.kind _ _ rfl⟩
 cases h31:decide (t.kind=31)
 case true =>
  obtain ⟨a,b⟩:=A (sh31 (Wrg h31) hx).2.2;exact ⟨a.failu (by rw [b.2.1]) _ _ _,Xoa N.h.kind _ _ rfl⟩
 cases h32:decide (t.kind=32)
 case true =>
  obtain ⟨_,hl,k0,k1⟩:=sh32 (Wrg h32) hx;obtain ⟨a,b⟩:=A k0;obtain ⟨c,d⟩:=(U 1).ex k1 _ _ a;simp only [Wug,Wtg];rw [b.2.1,d.2.1];exact ⟨c.failu rfl _ _ _,Xoa N.h.kind _ _ rfl⟩
 cases h33:decide (t.kind=33)
 case true =>
  obtain ⟨a,b⟩:=A (sh33 (Wrg h33) hx).2;exact ⟨a.failu (by rw [b.2.1]) _ _ _,Xoa N.h.kind _ _ rfl⟩
 cases h37:decide (t.kind=37)
 case true =>
  obtain ⟨a,b⟩:=A (sh37 (Wrg h37) hx).2;exact ⟨a.failu (by rw [b.2.1]) _ _ _,Xoa N.h.kind _ _ rfl⟩
 cases h35:decide (t.kind=35)
 case true =>
  obtain ⟨a,b⟩:=A (sh35 (Wrg h35) hx).2;exact ⟨a.failu (by rw [b.2.1]) _ _ _,Xoa N.h.kind _ _ rfl⟩
 simp only [Wqg] at h29 h31 h32 h33 h37 h35;simp only [Aka,Ava,or_false] at hk;have h36:t.kind=36:=by omega
 rw [Wng h36];obtain ⟨a,b⟩:=A (sh36 h36 hx).2;exact ⟨a.failu (by rw [b.2.1]) _ _ _,Xoa N.h.kind _ _ rfl⟩
theorem Zig(H:FlR F F')(N:Nk u t t')(U:∀ i,UnC u (Zb t i) (ckX F t i) (ckX F' t' i))(hx:exprB t=true)(h:RU u S S') :
 RU u (exR F t (ckX F t) S).2 (exR F' t' (ckX F' t') S').2∧Hd (exR F t (ckX F t) S).1 (exR F' t' (ckX F' t') S').1:=by
 have nil:∀ y,RU u S S'∧Hd (annT t [] y) (annT t' [] y):=fun y=>⟨h,Xoa N.h.kind _ _ rfl⟩;unfold exR;rw [N.h.kind];cases h24:decide (t.kind=24);case true=>exact nil _
 cases h25:decide (t.kind=25);case true=>exact nil _
 cases h26:decide (t.kind=26);case true=>exact nil _
 cases h38:decide (t.kind=38);case true=>exact Jjf N U (Wrg h38) hx h
 cases h30:decide (t.kind=30);case true=>exact Jif N U (Wrg h30) hx h
 cases h27:decide (t.kind=27)
 case true =>
  obtain ⟨b,c⟩:=Wad H N.h N.n h;simp only [Wug,Wtg];rw [b,c.2.1];refine ⟨?_,c⟩;cases (lookR F S t).2;exact h.fail _ _ _;exact h.failu rfl _ _ _
 cases h28:decide (t.kind=28)
 case true =>
  obtain ⟨a,b,c⟩:=Zve H N U (Wrg h28) hx h;simp only [Wug,Wtg];rw [b,c.2.1];exact ⟨a.failu rfl _ _ _,c⟩
 cases h34:decide (t.kind=34)
 case true =>
  simp only [Wug,Wtg];rw [N.h.text,H.s2];exact ⟨h.failu rfl _ _ _,Xoa N.h.kind _ _ rfl⟩
 simp only [Wqg] at h24 h25 h26 h38 h30 h27 h28 h34;exact un_op N U hx (Jff hx h24 h25 h26 h38 h30 h27 h28 h34) h
theorem Xmg(H:FlR F F')(N:Nk u t t')(U:∀ i,UnC u (Zb t i) (ckX F t i) (ckX F' t' i))(hx:exprB t=true)(h:RU u S S') :
 RU u (calR F t (ckX F t) S).2 (calR F' t' (ckX F' t') S').2∧(calR F' t' (ckX F' t') S').1.2=(calR F t (ckX F t) S).1.2:=by
 have fin:RU u (failU (tyEqB (exR F t (ckX F t) S).1.ty tFunc) t.pos 7 (exR F t (ckX F t) S).2) (failU (tyEqB (exR F' t' (ckX F' t') S').1.ty tFunc) t'.pos 7 (exR F' t' (ckX F' t') S').2):=by
  obtain ⟨a,b⟩:=Zig H N U hx h;exact a.failu (by rw [b.2.1]) _ _ _
 unfold calR;dsimp only;rw [N.h.kind,N.h.text];cases h28:decide (t.kind=28);simp only [Bool.false_and,Wtg];cases h27:decide (t.kind=27);exact ⟨fin,rfl⟩;obtain ⟨b,c⟩:=Wad H N.h N.n h;rw [b,c.2.2,H.p4,H.r4];simp only [Bool.true_and];cases ((lookR F S t).2&&decide ((lookR F S t).1.ref=3));exact ⟨fin,rfl⟩;exact ⟨h,rfl⟩;have ht:=Wrg h28;obtain ⟨_,hl,k0⟩:=sh28 ht hx;obtain ⟨b,c⟩:=(U 0).rcv k0 S S' h;rw [Wmg (show ¬ t.kind=27 by omega),b];simp only [Bool.true_and,Bool.false_and,Wtg];cases hr:((ckX F t 0).rcv S).2;exact ⟨fin,rfl⟩
 have q:RU u (rcvX t (ckX F t) S).2 (rcvX t' (ckX F' t') S').2∧Hd (rcvX t (ckX F t) S).1 (rcvX t' (ckX F' t') S').1:=by
  unfold rcvX;rw [(N.q 0).kind];cases h3:decide ((Zb t 0).kind=28);exact ⟨h,c⟩;obtain ⟨a,_,d⟩:=(U 0).mem (Wrg h3) k0 S S' h;exact ⟨a,d⟩
 simp only [Wug];rw [q.2.2.1];exact ⟨q.1.failu rfl _ _ _,rfl⟩
end
section
variable {u:List UInt8→Bool} {F F' t t':Nd} {S S':CSt}
theorem Wnf(N:Nk u t t')(U:∀ i,UnC u (Zb t i) (ckX F t i) (ckX F' t' i))(hb:t.kids.all stmtB=true)(h:RU u S S'):∀ i,i≤t.kids.length→RU u (stA (ckX F t) S i).2 (stA (ckX F' t') S' i).2
 | 0,_=>h
 | i+1,hi=>((U i).st (Vg hb O) _ _ (Wnf N U hb h i O)).1
theorem Xng(N:Nk u t t')(U:∀ i,UnC u (Zb t i) (ckX F t i) (ckX F' t' i))(hb:blockB t=true)(h:RU u S S'):RU u (stsR t (ckX F t) S).2 (stsR t' (ckX F' t') S').2:=by
 unfold stsR;rw [N.l];exact Wnf N U (sh10 hb) h _ (Afa _)
theorem Jkf(h:RU u S S')(k:RU u (openS S) (openS S')→RU u (stsR t (ckX F t) (openS S)).2 (stsR t' (ckX F' t') (openS S')).2):RU u (blkR t (ckX F t) S).2 (blkR t' (ckX F' t') S').2 :=
 h.frame (Ydc (Wab F t) h.sc) (Xzc (Xzb F t) S).result (Ydc (Wab F' t') h.sc') (Xzc (Xzb F' t') S').result (k h.open).ee
theorem Wke{k k':Nd}{c c':Ck}(q:Hq k k')(C:exprB k=true→∀ S S',RU u S S'→RU u (c.ex S).2 (c'.ex S').2∧Hd (c.ex S).1 (c'.ex S').1)(hx:noneB k=true∨exprB k=true)(h:RU u S S'):RU u (condR k c S).2 (condR k' c' S').2:=by
 unfold condR;rw [q.kind];cases h1:decide (k.kind=9);obtain ⟨a,b⟩:=C (hx.resolve_left fun q=>Wsg h1 (Jw q).1) S S' h;exact a.failu (by rw [b.2.1]) _ _ _;exact h
theorem Zjg(N:Nk u t t')(U:∀ i,UnC u (Zb t i) (ckX F t i) (ckX F' t' i))(hb:ifB t=true)(h:RU u S S'):RU u (ifR t (ckX F t) S).2 (ifR t' (ckX F' t') S').2:=by
 obtain ⟨hl,k0,k1,k2⟩:=sh18 hb;have a:=(U 1).blk k1 _ _ (Wke (N.q 0) (U 0).ex (.inr k0) h);unfold ifR;dsimp only;rw [(N.q 2).kind];cases h3:decide ((Zb t 2).kind=10);cases h4:decide ((Zb t 2).kind=18);exact a;have h4:=Wrg h4;refine (U 2).ifs ?_ _ _ a;rcases k2 with q|q|q;rw [Qv q] at h4;cases h4;exact q;rw [(Jw q).1] at h4;cases h4;have h3:=Wrg h3;refine (U 2).blk ?_ _ _ a;rcases k2 with q|q|q;exact q;rw [show (Zb t 2).kind=18 from Wrg (Aga.1 q).1] at h3;cases h3;rw [(Jw q).1] at h3;cases h3
theorem Xog(N:Nk u t t')(U:∀ i,UnC u (Zb t i) (ckX F t i) (ckX F' t' i))(hb:Zya t=true)(f:Bool)(h:RU u S S'):RU u (casR t (ckX F t) f S).2 (casR t' (ckX F' t') f S').2:=by
 obtain ⟨hk,hl,hc,hb1⟩:=sh23 hb;refine h.frame (Jkd (Wab F t) f h.sc) (Ytd (Xzb F t) f S).result (Jkd (Wab F' t') f h.sc') (Ytd (Xzb F' t') f S').result ?_
 have a:RU u (bif decide ((Zb t 0).kind=9) then (clnT (Zb t 0),failU f t.pos 6 (openS S)) else ((ckX F t) 0).st (openS S)).2 (bif decide ((Zb t' 0).kind=9) then (clnT (Zb t' 0),failU f t'.pos 6 (openS S')) else ((ckX F' t') 0).st (openS S')).2∧NU u (bif decide ((Zb t' 0).kind=9) then (clnT (Zb t' 0),failU f t'.pos 6 (openS S')) else ((ckX F' t') 0).st (openS S')).2:=by
  rw [(N.q 0).kind];cases h3:decide ((Zb t 0).kind=9);obtain ⟨p,q⟩:=(U 0).st ((Jic hc).resolve_left (Wsg h3)) _ _ h.open;exact ⟨p,q (NU.open h)⟩;exact ⟨h.open.failu rfl _ _ _,(NU.open h).vs (Vfd _ _ _ _)⟩
 exact ((U 1).sts hb1 _ _ a.1 a.2).ee
theorem Zwe(N:Nk u t t')(hb:t.kids.all Zya=true){i:Nat}(hi:i<t.kids.length):(Zb (Zb t' i) 0).kind=(Zb (Zb t i) 0).kind:=by
 have h:=(sh23 (Vg hb hi)).1;exact (((N.k i hi).node O).q 0).kind
theorem Wle(N:Nk u t t')(U:∀ i,UnC u (Zb t i) (ckX F t i) (ckX F' t' i))(hb:t.kids.all Zya=true)(h:RU u S S'):∀ i,i≤t.kids.length→RU u (selA t (ckX F t) S i).2.2 (selA t' (ckX F' t') S' i).2.2∧(selA t' (ckX F' t') S' i).2.1=(selA t (ckX F t) S i).2.1
 | 0,_=>⟨h,rfl⟩
 | i+1,hi=>by
  obtain ⟨a,b⟩:=Wle N U hb h i O;rw [selA,selA];dsimp only;rw [b,Zwe N hb O];exact ⟨(U i).cas (Vg hb O) _ _ _ a,rfl⟩
theorem Xpg(H:FlR F F')(N:Nk u t t')(U:∀ i,UnC u (Zb t i) (ckX F t i) (ckX F' t' i))(hb:varB t=true)(h:RU u S S'):RU u (varR F t (ckX F t) S).2 (varR F' t' (ckX F' t') S').2∧(NU u S'→NU u (varR F' t' (ckX F' t') S').2):=by
 obtain ⟨_,hl,k0,k1⟩:=sh6 hb;have l:=Utc H (N.q 0) h;unfold varR;dsimp only;rw [(N.q 1).kind,(N.q 0).of,N.h.text];cases h2:decide ((Zb t 1).kind=9);obtain ⟨a,b⟩:=(U 1).ex (k1.resolve_left fun q=>Wsg h2 (Jw q).1) _ _ l;simp only [Wtg];rw [b.2.1];exact ⟨(a.failu rfl _ _ _).decl N.n _ _ _,fun n=>NU.decl (n.vs ((((Yoa F' _ S').trans ((Wab F' t' 1).ex _ ((Yoa F' _ S').sc h.sc'))).failu _ _ _))) N.n _ _⟩;exact ⟨l.decl N.n _ _ _,fun n=>NU.decl (n.vs (Yoa F' _ S')) N.n _ _⟩
theorem Xqg(N:Nk u t t')(U:∀ i,UnC u (Zb t i) (ckX F t i) (ckX F' t' i))(ht:t.kind=11)(hb:stmtB t=true)(h:RU u S S'):RU u (defR t (ckX F t) S).2 (defR t' (ckX F' t') S').2∧(NU u S'→NU u (defR t' (ckX F' t') S').2):=by
 obtain ⟨a,b⟩:=(U 0).ex (sh11 ht hb).2.2 _ _ h;unfold defR;dsimp only;rw [b.2.1,N.h.text];exact ⟨(a.failu rfl _ _ _).decl N.n _ _ _,fun n=>NU.decl (n.vs (((Wab F' t' 0).ex S' h.sc').failu _ _ _)) N.n _ _⟩
theorem Xrg(N:Nk u t t')(U:∀ i,UnC u (Zb t i) (ckX F t i) (ckX F' t' i))(ht:t.kind=12)(hb:stmtB t=true)(h:RU u S S'):RU u (asgR t (ckX F t) S).2 (asgR t' (ckX F' t') S').2:=by
 obtain ⟨hl,k0,k1⟩:=sh12 ht hb;obtain ⟨a,b⟩:=(U 0).ex k0 _ _ h;unfold asgR;dsimp only;rw [b.1,b.2.1,b.2.2];obtain ⟨c,d⟩:=(U 1).ex k1 _ _ (a.failu (b:=((decide (((ckX F t 0).ex S).1.kind=27) && !decide (((ckX F t 0).ex S).1.ref=3)) || decide (((ckX F t 0).ex S).1.kind=28)) || decide (((ckX F t 0).ex S).1.kind=29)) rfl (Zb t 0).pos (Zb t' 0).pos 7);rw [d.2.1];exact c.failu rfl _ _ _
theorem Xsg(N:Nk u t t')(U:∀ i,UnC u (Zb t i) (ckX F t i) (ckX F' t' i))(ht:t.kind=19)(hb:stmtB t=true)(h:RU u S S'):RU u (forR t (ckX F t) S).2 (forR t' (ckX F' t') S').2:=by
 obtain ⟨hl,k0,k1⟩:=sh19 ht hb;exact (U 1).blk k1 _ _ (Wke (N.q 0) (U 0).ex k0 h)
theorem Xtg(N:Nk u t t')(U:∀ i,UnC u (Zb t i) (ckX F t i) (ckX F' t' i))(ht:t.kind=20)(hb:stmtB t=true)(h:RU u S S'):RU u (retR t (ckX F t) S).2 (retR t' (ckX F' t') S').2:=by
 obtain ⟨h1,h2⟩:=sh20 ht hb;unfold retR;dsimp only;rw [N.l,h.result];cases h3:decide ((t.kids.length:Int)=1);exact h.failu rfl _ _ _;have h3:=Wrg h3;obtain ⟨a,b⟩:=(U 0).ex (Vg h2 O) _ _ (h.failu (b:=!Bool.xor true (!tyEqB S.result ty0)) rfl t.pos t'.pos 7);simp only [Wug];rw [b.2.1,a.result];exact a.failu rfl _ _ _
theorem un_st(H:FlR F F')(N:Nk u t t')(U:∀ i,UnC u (Zb t i) (ckX F t i) (ckX F' t' i))(hb:stmtB t=true)(h10:t.kind≠10)(h:RU u S S') :
 RU u (stR F t (ckX F t) S).2 (stR F' t' (ckX F' t') S').2∧(NU u S'→NU u (stR F' t' (ckX F' t') S').2):=by
 have X':=Wab F' t';unfold stR;dsimp only;rw [N.h.kind,Wmg h10];simp only [Wtg];cases h18:decide (t.kind=18);case true=>exact ⟨Zjg N U (sh18s (Wrg h18) hb) h,fun n=>n.vs (Yte X' h.sc')⟩
 cases h12:decide (t.kind=12);case true=>exact ⟨Xrg N U (Wrg h12) hb h,fun n=>n.vs (Jjd X' h.sc')⟩
 cases h22:decide (t.kind=22)
 case true =>
  refine ⟨?_,fun n=>n.vs (Wxb X' h.sc' _)⟩;simp only [Wug,Wtg];unfold selR;rw [N.l];exact (Wle N U (sh22 (Wrg h22) hb) h _ (Afa _)).1
 cases h6:decide (t.kind=6);case true=>exact Xpg H N U (sh6s (Wrg h6) hb) h
 cases h11:decide (t.kind=11);case true=>exact Xqg N U (Wrg h11) hb h
 cases h19:decide (t.kind=19);case true=>exact ⟨Xsg N U (Wrg h19) hb h,fun n=>n.vs (Jld X' h.sc')⟩
 cases h20:decide (t.kind=20);case true=>exact ⟨Xtg N U (Wrg h20) hb h,fun n=>n.vs (Jmd X' h.sc')⟩
 have v:=(X' 0).ex S' h.sc';simp only [Wtg,wantS];cases h16:decide (t.kind=16)
 case true =>
  obtain ⟨hl,k0,k1⟩:=sh16 (Wrg h16) hb;obtain ⟨a,b⟩:=(U 0).ex k0 _ _ h;obtain ⟨c,d⟩:=(U 1).ex k1 _ _ (a.failu (b:=decide (((ckX F t 0).ex S).1.ty.kind=6)) (b':=decide (((ckX F' t' 0).ex S').1.ty.kind=6)) (by rw [b.2.1]) (Zb t 0).pos (Zb t' 0).pos 7);exact ⟨c.failu (congrArg (fun y:Ty=>decide (y.kind=1)) d.2.1) _ _ _,fun n=>n.vs ((Vs.ex X' (v.failu _ _ _) h.sc' 1).failu _ _ _)⟩
 simp only [Wqg] at h18 h12 h22 h6 h11 h19 h20 h16;obtain ⟨hl,k0⟩:=Jgf hb h10 h18 h12 h22 h6 h11 h19 h20 h16;obtain ⟨a,b⟩:=(U 0).ex k0 _ _ h;cases decide (t.kind=17);case true=>exact ⟨a.failu (by rw [b.2.1]) _ _ _,fun n=>n.vs (v.failu _ _ _)⟩
 cases decide (t.kind=21);case true=>exact ⟨a.failu (by rw [b.2.1]) _ _ _,fun n=>n.vs (v.failu _ _ _)⟩
 exact ⟨a,fun n=>n.vs v⟩
theorem un_f(H:FlR F F')(N:Nk u t t')(U:∀ i,UnC u (Zb t i) (ckX F t i) (ckX F' t' i))(h10:t.kind≠10):UnC u t (ckF F t (ckX F t)) (ckF F' t' (ckX F' t')) :=
 ⟨fun hx S S' h=>Zig H N U hx h,fun ht hx S S' h=>Zve H N U ht hx h,fun hx S S' h=>Xlg H N U hx h,fun hx S S' h=>Xmg H N U hx h,fun hb S S' h=>un_st H N U hb h10 h,
  fun hb S S' h=>absurd (Qv hb) h10,fun hb S S' h=>Zjg N U hb h,fun hb S S' h=>absurd (Qv hb) h10,fun hb f S S' h=>Xog N U hb f h⟩
theorem un_fb(h10:t.kind=10)(h10':t'.kind=10)(k:blockB t=true→∀ S S',RU u S S'→NU u S'→RU u (stsR t (ckX F t) S).2 (stsR t' (ckX F' t') S').2):UnC u t (ckF F t (ckX F t)) (ckF F' t' (ckX F' t')):=by
 have he:exprB t=false:=by
  cases h:exprB t;rfl;have hx:=(Aga.1 h).1;unfold expK at hx;rw [Zbb,h10] at hx;revert hx;decide
 have b:blockB t=true→∀ S S',RU u S S'→RU u (blkR t (ckX F t) S).2 (blkR t' (ckX F' t') S').2:=fun hb S S' h=>Jkf h fun h1=>k hb _ _ h1 (NU.open h);refine ⟨fun hx=>?_,fun ht=>?_,fun hx=>?_,fun hx=>?_,fun hb S S' h=>?_,b,fun hb=>?_,k,fun hb=>?_⟩;rw [he] at hx;cases hx;rw [h10] at ht;cases ht;rw [he] at hx;cases hx;rw [he] at hx;cases hx;show RU u (stR F t (ckX F t) S).2 (stR F' t' (ckX F' t') S').2∧(NU u S'→NU u (stR F' t' (ckX F' t') S').2);unfold stR;rw [Wng h10,Wng h10'];exact ⟨b (sh10s h10 hb) S S' h,fun n=>n.vs (Ydc (Wab F' t') h.sc')⟩;have:=Wrg (Aga.1 hb).1;omega;have:=(sh23 hb).1;omega
theorem un_0(u:List UInt8→Bool):UnC u nd0 ck0 ck0:=by
 refine ⟨fun h=>?_,fun _ h=>?_,fun h=>?_,fun h=>?_,fun h=>?_,fun h=>?_,fun h=>?_,fun h=>?_,fun h=>?_⟩;exact absurd h Od;exact absurd h Od;exact absurd h Od;exact absurd h Od;exact absurd h Od;exact absurd h Od;exact absurd h Od;exact absurd h Od;exact absurd h Od
theorem Uyd{F t:Nd}{i:Nat}(h:¬ i<t.kids.length):ckX F t i=ck0:=by rw [ckX];simp only [Bha,Axa];rw [Bta O];rfl
theorem un_t(H:FlR F F'):∀ t t',InR u t t'→UnC u t (ckT F t) (ckT F' t'):=by
 refine Nd.ind fun t ih t' h=>?_;rw [Zha,Zha F']
 have U:∀ {N:Nk u t t'} i,UnC u (Zb t i) (ckX F t i) (ckX F' t' i):=fun {N} i=>by
  by_cases hi:i<t.kids.length;rw [Wl hi,Wl (by rw [N.l];exact hi)];have h1:=N.k i hi;rw [Yz hi] at h1 ⊢;exact ih _ (Aja hi) _ h1;rw [Uyd hi,Uyd (by rw [N.l];exact hi),Jzb hi];exact un_0 u
 by_cases h10:t.kind=10;refine un_fb h10 (h.hq.kind.trans h10) fun hb S S' hr hn=>?_
 cases h with
 | nd hq hu hl hk=>exact Xng ⟨hq,hu,hl,hk⟩ (U (N:=⟨hq,hu,hl,hk⟩)) hb hr
 | bl hq hu ht hd hl hk =>
  unfold stsR;rw [hl];obtain ⟨d1,d2,d3,d4,d5⟩:=hd
  have e1:(stA (ckX F' t') S' 1).2=declS (Zb t' 0).text (ofF (Zb (Zb t' 0) 0)).1 (Zb t' 0).pos S':=by
   show ((ckX F' t' 0).st S').2=_;rw [Wl O,Zha];show (stR F' (Zb t' 0) (ckX F' (Zb t' 0)) S').2=_;unfold stR;rw [d1];show (varR F' (Zb t' 0) _ S').2=_;unfold varR localS pointerS;rw [d3,d4,d5];rfl
  have q:∀ i,i≤t.kids.length→RU u (stA (ckX F t) S i).2 (stA (ckX F' t') S' (i+1)).2:=by
   intro i
   induction i with
   | zero=>intro _;rw [e1];exact hr.decl1 hn d2 _ _
   | succ i ihq =>
    intro hi;have a:=ihq O;have k:=hk i O;have b:=ih t.kids[i] (Aja O) (Zb t' (i+1)) (by rw [← Yz];exact k);have hs:=Vg (sh10 hb) (show i<t.kids.length by omega);rw [Yz (show i<t.kids.length by omega)] at hs;have c:=(b.st hs _ _ a).1;show RU u ((ckX F t i).st _).2 ((ckX F' t' (i+1)).st _).2;rw [Wl (show i<t.kids.length by omega),Wl (show i+1<t'.kids.length by omega),Yz (show i<t.kids.length by omega)];exact c
  exact q _ (Afa _)
 exact un_f H (h.node h10) (U (N:=h.node h10)) h10
theorem Qbe{t t':Nd}(h1:t'.kind=t.kind)(h2:(Zb t' 0).kind=(Zb t 0).kind)(h3:(Zb t' 2).kind=(Zb t 2).kind)(h4:t'.kids.map endT=t.kids.map endT):endT t'=endT t:=by
 rw [Yca,Yca t,h4];unfold endP;rw [h1,h2,h3]
theorem Xug:∀ t t',InR u t t'→endT t'=endT t:=by
 refine Nd.ind fun t ih t' h=>?_
 cases h with
 | nd hq hu hl hk =>
  have N:Nk u t t':=⟨hq,hu,hl,hk⟩;refine Qbe hq.kind (N.q 0).kind (N.q 2).kind (Bqa (by rw [Aea,Aea,hl]) fun i h1 h2=>?_);rw [Ata,Ata];have hi:i<t.kids.length:=by rwa [Aea] at h2
  have k:=hk i hi;rw [Yz hi,Yz (hl▸hi)] at k;exact ih _ (Aja hi) _ k
 | bl hq hu ht hd hl hk =>
  have e:(t'.kids.map endT).getLast?.getD (false,false)=(t.kids.map endT).getLast?.getD (false,false)∨((t'.kids.map endT).getLast?.getD (false,false)).1=((t.kids.map endT).getLast?.getD (false,false)).1:=by
   rcases Nat.eq_zero_or_pos t.kids.length with h0|h0;right;have h1:t'.kids.length=1:=by omega
   have e1:=kid_1 h1;rw [e1,List.length_eq_zero_iff.1 h0];show (endT (Zb t' 0)).1=false;rw [Yca];unfold endP;rw [hd.1];rfl;left;rw [List.getLast?_map,List.getLast?_map,Bva,Bva,Bwa (show t'.kids.length-1<t'.kids.length by omega),Bwa (show t.kids.length-1<t.kids.length by omega)];have k:=hk (t.kids.length-1) O;have e1:t.kids.length-1+1=t'.kids.length-1:=by omega
   rw [e1,Yz (show t.kids.length-1<t.kids.length by omega),Yz (show t'.kids.length-1<t'.kids.length by omega)] at k;show endT _=endT _;exact ih _ (Aja _) _ k
  have e:((t'.kids.map endT).getLast?.getD (false,false)).1=((t.kids.map endT).getLast?.getD (false,false)).1:=e.elim (congrArg Prod.fst) id;rw [Yca,Yca t];unfold endP;rw [hq.kind,ht];show (((t'.kids.map endT).getLast?.getD (false,false)).1,((t'.kids.map endT).getLast?.getD (false,false)).1)=_;rw [e];rfl
/-! declarations -/
theorem Wme(H:FlR F F')(N:Nk u t t')(hp:∀ f∈t.kids,f.kind=3)(h:RU u S S')(hn:NU u S'):∀ i,i≤t.kids.length→RU u (parA F t S i).2 (parA F' t' S' i).2∧NU u (parA F' t' S' i).2
 | 0,_=>⟨h,hn⟩
 | i+1,hi=>by
  obtain ⟨a,b⟩:=Wme H N hp h hn i O;have k:=N.k i O;have hk:(Zb t i).kind=3:=hp _ (by rw [Yz (show i<t.kids.length by omega)];exact Aja _);have M:=k.node O;rw [parA,parA];dsimp only;rw [M.h.text,(M.q 0).of];exact ⟨Utc H (M.q 0) (a.decl M.n _ _ _),(NU.decl b M.n _ _).vs (Yoa F' _ _)⟩
theorem sc_0(S:CSt):Sc (funS0 S):=fun v hv=>by cases hv
theorem Qce(a e:Int)(S:CSt)(r:Ty):failS a e { S with result:=r } = { failS a e S with result:=r }:=by
 unfold failS;show (bif decide (S.ee=0) then _ else _)=_;cases decide (S.ee=0) <;> rfl
theorem Yvc(b:Bool)(a e:Int)(S:CSt)(r:Ty):failU b a e { S with result:=r } = { failU b a e S with result:=r }:=by
 cases b;exact Qce a e S r;rfl
theorem Uzd(F n:Nd)(S:CSt)(r:Ty):pointerS F n { S with result:=r } = { pointerS F n S with result:=r }:=by
 unfold pointerS;cases decide (n.kind=8);rfl;exact Yvc _ _ _ S r
theorem Qde(F n:Nd)(S:CSt)(r:Ty):localS F n { S with result:=r } = { localS F n S with result:=r }:=by
 unfold localS;rw [Uzd,Yvc]
theorem Wof(s:List UInt8)(y:Ty)(a:Int)(S:CSt)(r:Ty):declS s y a { S with result:=r } = { declS s y a S with result:=r }:=by
 have e:=Yvc (!dupV S s) a 6 S r;unfold declS;show ({ failU (!dupV S s) a 6 { S with result:=r } with next:=_,vars:=_ }:CSt)=_;rw [e];rfl
theorem Qad(F p:Nd)(S:CSt)(r:Ty):∀ i,(parA F p { S with result:=r } i).2 = { (parA F p S i).2 with result:=r }
 | 0=>rfl
 | i+1=>by
  rw [parA,parA];dsimp only;rw [Qad F p S r i,Wof,Qde]
theorem Xvg(H:FlR F F'){n n':Nd}(N:InR u n n')(hk:n.kind=4)(hp:permF n=true)(he:S'.ee=S.ee):(funR F' n' S').2.ee=(funR F n S).2.ee:=by
 obtain ⟨hl,⟨p1,p2⟩,hr,b1,b2⟩:=pf4 hk hp;have M:=N.node O;have h0:RU u { funS0 S with result:=ty0 } { funS0 S' with result:=ty0 }:=⟨rfl,rfl,rfl,he,sc_0 S,sc_0 S'⟩;have Np:=(M.k 0 O).node O;have e1:∀ F n S,funS1 F n S=(parA F (Zb n 0) { funS0 S with result:=ty0 } (Zb n 0).kids.length).2:=fun F n S=>(Qad F (Zb n 0) (funS0 S) ty0 (Zb n 0).kids.length).symm;obtain ⟨a,b⟩:=Wme H Np (fun f hf=>(Yea (.inr p1) p2 f hf).1) h0 (fun v hv=>by cases hv) _ (Afa _);have s1:RU u (funS1 F n S) (funS1 F' n' S'):=by rw [e1,e1,Np.l];exact a
 have n1:NU u (funS1 F' n' S'):=by rw [e1,Np.l];exact b
 have s2:RU u (funS2 F n S) (funS2 F' n' S')∧NU u (funS2 F' n' S'):=by
  unfold funS2;rw [(M.q 1).kind,(M.q 1).of];cases decide ((Zb n 1).kind=9);have l:=Utc H (M.q 1) s1;exact ⟨⟨l.vars,l.scope,rfl,l.ee,l.sc,l.sc'⟩,(n1.vs (Yoa F' (Zb n' 1) _):NU u (localS F' (Zb n' 1) (funS1 F' n' S')))⟩;exact ⟨s1,n1⟩
 have k2:=M.k 2 O;have c:=((un_t H _ _ k2).sts (by unfold blockB;rw [b1,b2];rfl) _ _ s2.1 s2.2).ee;have ends:endsL (Zb n' 2).kids=endsL (Zb n 2).kids:=by rw [← Yqd,← Yqd,Xug _ _ k2]
 unfold funR;dsimp only;rw [ends,(M.q 1).kind];cases (decide ((Zb n 1).kind=9) || endsL (Zb n 2).kids);show (failS _ 7 _).ee=(failS _ 7 _).ee;rw [Jz,Jz,c];exact c
theorem Uuc{b b':Bool}(hb:b'=b){a a' e:Int}(he:S'.ee=S.ee):(failU b' a' e S').ee=(failU b a e S).ee:=by
 subst hb;cases b';show (failS a' e S').ee=(failS a e S).ee;rw [Jz,Jz,he];exact he
theorem Uvc(H:FlR F F'){k k':Nd}(q:Hq k k')(he:S'.ee=S.ee):(pointerS F' k' S').ee=(pointerS F k S).ee:=by
 unfold pointerS;rw [q.kind,q.text];cases decide (k.kind=8);exact he;exact Uuc (by rw [H.s2]) he
theorem Wne(n:Nd)(i:Nat):dupAt n i=((n.kids.map Nd.text).take i).any fun s=>decide (s=(Zb n i).text):=by
 unfold dupAt;rw [← List.map_take,List.any_map];rfl
theorem Nk.txt{n n':Nd}(N:Nk u n n'):n'.kids.map Nd.text=n.kids.map Nd.text:=by
 refine Bqa (by rw [Aea,Aea,N.l]) fun i h1 h2=>?_;have hi:i<n.kids.length:=by rwa [Aea] at h2
 have h:=(N.q i).text;rw [Yz hi,Yz (N.l▸hi)] at h;rw [Ata,Ata,h]
theorem Nk.dup{n n':Nd}(N:Nk u n n')(i:Nat):dupAt n' i=dupAt n i:=by rw [Wne,Wne,N.txt,(N.q i).text]
theorem Wpf(H:FlR F F'){n n':Nd}(N:Nk u n n')(hp:∀ f∈n.kids,f.kind=3)(he:S'.ee=S.ee):∀ i,i≤n.kids.length→(strA F' n' S' i).ee=(strA F n S i).ee
 | 0,_=>he
 | i+1,hi=>by
  have k:=N.k i O;have hk:(Zb n i).kind=3:=hp _ (by rw [Yz (show i<n.kids.length by omega)];exact Aja _);rw [strA,strA];exact Uvc H ((k.node O).q 0) (Uuc (by rw [N.dup]) (Wpf H N hp he i O))
theorem Xwg(H:FlR F F'){n n':Nd}(N:InR u n n')(hk:n.kind=2∨n.kind=6∨n.kind=4)(hp:permF n=true)(he:S'.ee=S.ee):(dclR F' n' S').2.ee=(dclR F n S).2.ee:=by
 have M:=N.node O;unfold dclR;rw [M.h.kind];cases h2:decide (n.kind=2);case true=>rw [M.l];exact Wpf H M (fun f hf=>(Yea (.inl (Wrg h2)) hp f hf).1) he _ (Afa _)
 cases h6:decide (n.kind=6);case true=>exact Uvc H (M.q 0) he
 cases h4:decide (n.kind=4);case true=>exact Xvg H N (Wrg h4) hp he
 exact he
theorem Jlf(H:FlR F F')(he:S'.ee=S.ee)(h4:decide ((findD F' 4 [109,97,105,110]).2<0)=decide ((findD F 4 [109,97,105,110]).2<0)):(mainS F' S').ee=(mainS F S).ee:=by
 have e:=congrArg List.length (H.p4 [109,97,105,110]);rw [Aea,Aea] at e;unfold mainS;rw [h4,e,H.k4];cases decide ((findD F 4 [109,97,105,110]).2<0);cases (decide (0<((Zb (findD F 4 [109,97,105,110]).1 0).kids.length:Int)) || !decide ((Zb (findD F 4 [109,97,105,110]).1 1).kind=9));exact he;show (failS _ 7 _).ee=(failS _ 7 _).ee;rw [Jz,Jz,he];show (failS _ 5 _).ee=(failS _ 5 _).ee;rw [Jz,Jz,he]
theorem Wqf{n n':Nd}(N:Nk u n n')(he:S'.ee=S.ee):∀ i,(namA n' S' i).ee=(namA n S i).ee
 | 0=>he
 | i+1=>by rw [namA,namA];exact Uuc (by rw [N.dup]) (Wqf N he i)
theorem Woe(H:FlR F F')(N:Nk u F F')(hd:∀ d∈F.kids,(d.kind=2∨d.kind=6∨d.kind=4)∧permF d=true)(he:S'.ee=S.ee):∀ i,i≤F.kids.length→(dclA F' S' i).2.ee=(dclA F S i).2.ee
 | 0,_=>he
 | i+1,hi=>by
  have h:=hd (Zb F i) (by rw [Yz (show i<F.kids.length by omega)];exact Aja _);rw [dclA,dclA];exact Xwg H (N.k i O) h.1 h.2 (Woe H N hd he i O)
/-! what is found in files that differ by unused variables -/
theorem Wbd{kd:Int}{s:List UInt8}:∀ (l l':List Nd) (k:Nat),l'.length=l.length→(∀ i (h:i<l.length) (h':i<l'.length),InR u l[i] l'[i])→(findK kd s l' k).2=(findK kd s l k).2∧(((findK kd s l k).1=nd0∧(findK kd s l' k).1=nd0)∨(InR u (findK kd s l k).1 (findK kd s l' k).1∧(findK kd s l k).1∈l∧(findK kd s l k).1.kind=kd))
 | [],[],k,_,_=>⟨rfl,.inl ⟨rfl,rfl⟩⟩
 | [],_::_,_,h,_=>by cases h
 | _::_,[],_,h,_=>by cases h
 | d::l,d'::l',k,hl,h=>by
  have h0:=h 0 Os Os;have hq:=h0.hq;have ih:=fun k=>Wbd (kd:=kd) (s:=s) l l' k (by simpa using hl) fun i h1 h2=>h (i+1) (by simpa using h1) (by simpa using h2);have ih':∀ k,(findK kd s l' k).2=(findK kd s l k).2∧(((findK kd s l k).1=nd0∧(findK kd s l' k).1=nd0)∨(InR u (findK kd s l k).1 (findK kd s l' k).1∧(findK kd s l k).1∈d::l∧(findK kd s l k).1.kind=kd)):=fun k=>⟨(ih k).1,(ih k).2.imp id fun q=>⟨q.1,Awa _ q.2.1,q.2.2⟩⟩;rw [findK,findK,show d'.kind=d.kind from hq.kind,show d'.text=d.text from hq.text];cases hk:decide (d.kind=kd);exact ih' k;cases decide (d.text=s);exact ih' (k+1);exact ⟨rfl,.inr ⟨h0,Apa,Wrg hk⟩⟩
theorem Wrf{s:List UInt8}{d d':Nd}(q:Hq d d'):isStr s d'=isStr s d:=by unfold isStr;rw [q.kind,q.text]
theorem Wpe{s:List UInt8}:∀ (l l':List Nd),l'.length=l.length→(∀ i (h:i<l.length) (h':i<l'.length),InR u l[i] l'[i])→(l.find? (isStr s)=none∧l'.find? (isStr s)=none)∨∃ d d',l.find? (isStr s)=some d∧l'.find? (isStr s)=some d'∧InR u d d'
 | [],[],_,_=>.inl ⟨rfl,rfl⟩
 | [],_::_,h,_=>by cases h
 | _::_,[],h,_=>by cases h
 | d::l,d'::l',hl,h=>by
  have h0:=h 0 Os Os;have e:isStr s d'=isStr s d:=Wrf h0.hq;rw [List.find?_cons,List.find?_cons,e];cases isStr s d;exact Wpe l l' (by simpa using hl) fun i h1 h2=>h (i+1) (by simpa using h1) (by simpa using h2);exact .inr ⟨d,d',rfl,rfl,h0⟩
theorem Wqe:∀ (l l':List Nd),l'.length=l.length→(∀ i (h:i<l.length) (h':i<l'.length),Qj l'[i]=Qj l[i])→mapO Qj l'=mapO Qj l
 | [],[],_,_=>rfl
 | [],_::_,h,_=>by cases h
 | _::_,[],h,_=>by cases h
 | d::l,d'::l',hl,h=>by
  rw [mapO,mapO,Wqe l l' (by simpa using hl) fun i h1 h2=>h (i+1) (by simpa using h1) (by simpa using h2),show Qj d'=Qj d from h 0 Os Os]
theorem Xxg{f f':Nd}(M:Nk u f f'):Qj f'=Qj f:=by
 have e:ofF (kid0 f')=ofF (kid0 f):=(M.q 0).of;unfold Qj;rw [M.h.kind,M.l,e,M.h.text]
theorem Nk.at{n n':Nd}(N:Nk u n n'):∀ i (h:i<n.kids.length) (h':i<n'.kids.length),InR u n.kids[i] n'.kids[i]:=fun i h h'=>by
 have:=N.k i h;rwa [Yz h,Yz h'] at this
theorem Xyg{F F':Nd}(N:Nk u F F')(hv:validB F=true):FlR F F':=by
 have hd:=Yuc hv;have fd:=fun (kd:Int) (s:List UInt8)=>Wbd (kd:=kd) (s:=s) F.kids F'.kids 0 N.l N.at
 have nodes:∀ (kd:Int) (s:List UInt8),kd≠10→((findD F kd s).1=nd0∧(findD F' kd s).1=nd0)∨(Nk u (findD F kd s).1 (findD F' kd s).1∧permF (findD F kd s).1=true∧(findD F kd s).1.kind=kd):=fun kd s hk=>by
  rcases (fd kd s).2 with q|⟨q1,q2,q3⟩;exact .inl q;exact .inr ⟨q1.node (by rw [q3];exact hk),(hd _ q2).2.2,q3⟩
 refine ⟨fun s=>?_,fun s=>?_,fun s=>?_,fun s=>?_,fun s=>?_,fun s=>?_,fun s=>?_,fun s=>?_⟩;rw [show (findD F' 2 s).2=(findD F 2 s).2 from (fd 2 s).1];rw [show (findD F' 6 s).2=(findD F 6 s).2 from (fd 6 s).1];rcases nodes 6 s Od with ⟨q1,q2⟩|⟨q,_⟩;rw [q1,q2];rw [(q.q 0).of];rw [show (findD F' 4 s).2=(findD F 4 s).2 from (fd 4 s).1];rcases nodes 4 s Od with ⟨q1,q2⟩|⟨q,hp,hk⟩;rw [q1,q2];obtain ⟨hl,⟨p1,p2⟩,_⟩:=pf4 hk hp;have M:=(q.k 0 O).node O;refine Bqa (by rw [Aea,Aea,M.l]) fun i h1 h2=>?_;have hi:i<(Zb (findD F 4 s).1 0).kids.length:=by rwa [Aea] at h2
 rw [Ata,Ata];have z:=(Yea (.inr p1) p2 _ (Aja hi)).1;rw [(((M.at i hi (M.l▸hi)).node O).q 0).of];rcases nodes 4 s Od with ⟨q1,q2⟩|⟨q,_⟩;rw [q1,q2];rw [(q.q 1).of];rcases nodes 4 s Od with ⟨q1,q2⟩|⟨q,_⟩;rw [q1,q2];rw [(q.q 1).kind];unfold Ut;rcases Wpe (s:=s) F.kids F'.kids N.l N.at with ⟨q1,q2⟩|⟨d,d',q1,q2,q3⟩;rw [q1,q2];have hm:=Bpa q1;have h2:d.kind=2:=by have:=List.find?_some q1;rw [isStr] at this;simp at this;exact this.1
 have M:=q3.node O;rw [q1,q2]
 have e:mapO Qj d'.kids=mapO Qj d.kids:=Wqe _ _ M.l fun i h h'=>by
  have z:=(Yea (.inl h2) (hd _ hm).2.2 _ (Aja h)).1;exact Xxg ((M.at i h h').node O)
 simp only [e]
theorem Wsf{F:Nd}(hv:validB F=true):(refCheck F).2.2=(refS F).ee:=by
 by_cases h:(refS F).ee=0;unfold refCheck;rw [hv,Wng h,h];rfl;unfold refCheck;rw [hv,Wmg h];rfl
theorem Zxe{F F':Nd}(h:InR u F F')(hv:validB F=true)(hv':validB F'=true):(refCheck F').2.2=(refCheck F).2.2:=by
 have N:=h.node (by have:=(Usc hv).1;omega);have H:=Xyg N hv;rw [Wsf hv,Wsf hv'];unfold refS;rw [N.l];refine Jlf H (Woe H N (fun d hd=>⟨(Yuc hv d hd).1,(Yuc hv d hd).2.2⟩) (Wqf N J _) _ (Afa _)) ?_;rw [show (findD F' 4 [109,97,105,110]).2=(findD F 4 [109,97,105,110]).2 from (Wbd (kd:=4) (s:=[109,97,105,110]) F.kids F'.kids 0 N.l N.at).1]
end
def Dst(l:List Nd):Prop:=(l.map Nd.text).Nodup
structure Prm (F F':Nd):Prop where
  kind:F'.kind=F.kind
  text:F'.text=F.text
  p:F'.kids.Perm F.kids
theorem Prm.symm{F F':Nd}(h:Prm F F'):Prm F' F:=⟨h.kind.symm,h.text.symm,h.p.symm⟩
theorem Prm.dst{F F':Nd}(h:Prm F F')(hn:Dst F.kids):Dst F'.kids:=((h.p.map Nd.text).nodup_iff).2 hn
structure Acc (F:Nd):Prop where
  dst:Dst F.kids
  dcl:∀ d∈F.kids,(dclR F d rs0).2.ee=0
  mn:(mainS F rs0).ee=0
end Go.Rk
