/- Texts. Conditions: each its own. -/
import Derived.Test.YtmpfjifhkmdbaaaGreatDoorJ07
import Derived.Test.YtmpfjifhkmdbaaaGreatDoorJ01
import Derived.Test.YtmpfjifhkmdbaaaGreatDoorJ02
import Derived.Test.YtmpfjifhkmdbaaaGreatDoorJ03
import Derived.Test.YtmpfjifhkmdbaaaGreatDoorJ04
set_option linter.unusedSimpArgs false
set_option linter.unusedVariables false
set_option maxHeartbeats 16000000
set_option maxRecDepth 100000
open Bool renaming and_eq_true_iff→CC
open Go renaming World→Ae,TypeId→AD,PanicEntry→Bf,Operand→Bl,Program→AJ,Value→Aj
open Go.Region renaming wanted→CY
open Go.Value renaming slice→Fs
open Int renaming toNat_natCast→FI
open List renaming all_eq_true→A2,length_map→CR,forall_mem_cons→CW,map_cons→D4,mem_append_right→Ei,mem_cons→Ez,mem_cons_self→E8,length_append→F3,length_singleton→Gc,map_append→Gq,length_cons→Gm,mem_append_left→GN,length_erase_of_mem→GZ,mem_cons_of_mem→Ha,getElem?_map→Ht,forall_mem_nil→IH,map_congr_left→Iz,getElem?_take→IM,mem_singleton→Ju,mem_of_find?_eq_some→Jz
open Nat renaming blt→Ao,beq→AA,le_trans→Cj,le_refl→Cq,eq_of_beq_eq_true→Dr,beq_refl→Du,ble→DQ,lt_of_lt_of_le→Eo,le_of_ble_eq_true→E0,le_succ→EY,le_add_right→E6,zero_add→Hv,ble_eq_true_of_le→Ip
open Option renaming map_eq_some_iff→Bu,map_some→Hp
open Decidable renaming decide→Ac
namespace Go.Proofs
end Go.Proofs
namespace Go.Rk
open Go.Proofs
open Go Go.RowKit
def Tq(F:Nd)(w0:Ae)(r:Aj)(w':Ae):Prop:=(∃ u,r = .tuple #[u,.int .i64 (D8 F).2.1,.int .i64 (D8 F).2.2]∧Ii (D8 F).1 w0.heap.size u w')∧G w0 w'
theorem Te{n:Nat}{σ:List Ce}{F:Nd}{w0 w1:Ae}{b2 b3 b4:Nat}{u:Nd}{s x y:Aj}{ch:List Bf}{fn:Func}{T:Ak}(ab:fn.results = #[.cell 2 26,.cell 3 3,.cell 4 30])(hv:Hf F=true)
 (h2:Ex σ 2=some (True,.pointer (some ⟨b2,0,none⟩))) (h3:Ex σ 3=some (True,.pointer (some ⟨b3,0,none⟩))) (h4:Ex σ 4=some (True,.pointer (some ⟨b4,0,none⟩))) (B2:Ax w1 b2 26 (De u s)) (B3:Ax w1 b3 3 [x]) (B4:Ax w1 b4 30 [y])
 (hb:w0.heap.size≤b2∧w0.heap.size≤b3∧w0.heap.size≤b4) (g:G w0 w1) (hz:ch=[JZ T.ea T.ee]∧T.ee≠0) (hE:Bg T (F7 F)) :
 ∀ a,Cl n σ a→Ny An fn (Tq F w0) (fun _ _=>False) ch [Nf 28 #[.pointer (some ⟨b2,0,none⟩),.pointer (some ⟨b3,0,none⟩),.pointer (some ⟨b4,0,none⟩)] #[]] a w1:=by
 obtain ⟨rfl,aa⟩:=hz;obtain ⟨AU,e2⟩:=hE aa;have hr:=bG hv (by rw [AU];exact aa);refine Aag Zv J (Aam B2 B3 B4) fun v w2 ac=>?_;obtain ⟨_,C2,C3,C4,g2⟩:=ac;refine Q7 (IZ (rs:=[.cell 2 26,.cell 3 3,.cell 4 30]) (vs:=[_,_,_]) ab J (GJ h2 A3 J (C2.row) (Oh h3 Cb (C3.y J) (Oh h4 NI (C4.y J) GD))) J ?_);refine ⟨⟨_,by rw [hr,AU,e2],by rw [hr];exact BO (t:=Fr) J (IL _ _)⟩,?_⟩;exact ⟨g2.os.trans g.os,g2.tape.trans g.tape,g2.output.trans g.output,Cj g.size g2.size,fun k hk=>(g2.block k (Eo hk g.size) (by intro hm;simp only [Ez,List.not_mem_nil,or_false] at hm;omega)).trans (g.block hk)⟩
theorem aS{n:Nat}{σ:List Ce}{F:Nd}{w0 w1:Ae}{b2 b3 b4:Nat}{u:Nd}{s x y:Aj}{ch:List Bf}{fn:Func}{T:Ak}(aa:fn.results = #[.cell 2 26,.cell 3 3,.cell 4 30])(hv:Hf F=true)
 (h2:Ex σ 2=some (True,.pointer (some ⟨b2,0,none⟩))) (h3:Ex σ 3=some (True,.pointer (some ⟨b3,0,none⟩))) (h4:Ex σ 4=some (True,.pointer (some ⟨b4,0,none⟩))) (B2:Ax w1 b2 26 (De u s)) (B3:Ax w1 b3 3 [x]) (B4:Ax w1 b4 30 [y])
 (hb:w0.heap.size≤b2∧w0.heap.size≤b3∧w0.heap.size≤b4) (g:G w0 w1) (hz:ch=[JZ T.ea T.ee]∧T.ee≠0) (hE:Bg T (F7 F)) :
 ∀ a,Cl n σ a→∀ a',M5 n [2,3,4] a a'→Ny An fn (Tq F w0) (fun _ _=>False) ch [Nf 28 #[.pointer (some ⟨b2,0,none⟩),.pointer (some ⟨b3,0,none⟩),.pointer (some ⟨b4,0,none⟩)] #[]] a' w1:=fun a ha a' hA =>
 Te (σ:=[(2,True,.pointer (some ⟨b2,0,none⟩)),(3,True,.pointer (some ⟨b3,0,none⟩)),(4,True,.pointer (some ⟨b4,0,none⟩))]) aa hv rfl rfl rfl B2 B3 B4 hb g hz hE a' (hA.kn ha (fun t c v hl=>by
 unfold Ex at hl;cases e2:AA 2 t;rw [e2,AQ] at hl;unfold Ex at hl;cases e3:AA 3 t;rw [e3,AQ] at hl;unfold Ex at hl;cases e4:AA 4 t;rw [e4,AQ] at hl;cases hl;rw [e4,AL] at hl;rw [← Dr e4];exact h4.trans hl;rw [e3,AL] at hl;rw [← Dr e3];exact h3.trans hl;rw [e2,AL] at hl;rw [← Dr e2];exact h2.trans hl) fun t c v hl=>by
 unfold Ex at hl;cases e2:AA 2 t;rw [e2,AQ] at hl;unfold Ex at hl;cases e3:AA 3 t;rw [e3,AQ] at hl;unfold Ex at hl;cases e4:AA 4 t;rw [e4,AQ] at hl;cases hl;rw [← Dr e4];decide;rw [← Dr e3];decide;rw [← Dr e2];decide)
theorem On{M:Nat→Nat→Bool}{n0:Nat}{w w':Ae}(g:AP M n0 w w')(h:n0=w.heap.size):G w w':=⟨g.os,g.tape,g.output,g.size,fun k hk=>g.block k hk (.inl O)⟩
theorem gM{M:Nat→Nat→Bool}{n0:Nat}{w0 w w':Ae}(h:G w0 w)(g:AP M n0 w w')(hn:n0=w0.heap.size):G w0 w':=⟨g.os.trans h.os,g.tape.trans h.tape,g.output.trans h.output,Cj h.size g.size,fun k hk=>(g.block k (Eo hk h.size) (.inl O)).trans (h.block hk)⟩
theorem gI{w0 w w':Ae}{ms mg mn mf:Nat}(h:G w0 w)(g:EJ (Hb ms mg mn mf) w w')(hm:w0.heap.size≤ms∧w0.heap.size≤mg∧w0.heap.size≤mn∧w0.heap.size≤mf):G w0 w' :=
 ⟨g.os.trans h.os,g.tape.trans h.tape,g.output.trans h.output,Cj h.size (EJ.size g),fun k hk=>(g.block k (Eo hk h.size) (by unfold Hb;omega)).trans (h.block hk)⟩
theorem Ax.gx{w w':Ae}{X:List Nat}{n0 b:Nat}{e:AD}{l:List Aj}(h:Ax w b e l)(g:AP (CE X) n0 w w')(hb:b∈X):Ax w' b e l:=(g.block b h.lt (.inr fun ⟨cs,f,fr,_,hm⟩=>by
 unfold CE at hm;rw [BU hb] at hm;simp at hm)).trans h
theorem aN{F t:Nd}(Z:List Nat)(HF:MZ F)(hk:t.k=2∨t.k=6∨t.k=4)(hp:Cr t=true)(ab:count t≤1000000){n0 b m0:Nat}{TB X:List Nat}{S:Ak}{w:Ae}{v:Aj}(h:Hq F n0 b TB X w)(he:S.ee=0)(aa:Bv w (fun k=>k<n0) t.j v)(hZ:∀ j∈Z,j<w.heap.size)(hm:m0≤w.heap.size) :
 Gg An 31 #[.pointer (some ⟨b,0,none⟩),Cd t v] w (fun r w'=>(∃ p c,r=Cd (GB F t S).1 (.slice p (GB F t S).1.j.length c)∧m0≤w.heap.size∧EP w.heap.size Z w' (GB F t S).1.j (.slice p (GB F t S).1.j.length c))∧(GB F t S).2.ee=0∧Hq F n0 b TB X w'∧AP (CE X) n0 w w') (Ts n0 X (GB F t S).2 w) :=
 (Aeo HF hk hp ab h he aa).mono (fun r w' hr=>by
 obtain ⟨h0,⟨p,c,e,k⟩,h1,h2⟩:=hr;exact ⟨⟨p,c,e,hm,Gb.x k hZ⟩,h0,h1,h2⟩) fun _ _ h=>h
theorem bV{X:List Nat}{m0:Nat}{w w':Ae}{ks:List Nd}{v s:Aj}(hO:∀ k,s.ownBlock=some k→k<w.heap.size)(k:EP w.heap.size X w' ks v)(hm:m0≤w.heap.size):∃ lo,(∀ k,s.ownBlock=some k→k<lo)∧m0≤lo∧EP lo X w' ks v:=⟨_,hO,hm,k⟩
theorem I7.a4{F:Nd}{n0 b:Nat}{TB X:List Nat}{fv:Aj}{ms mg mn mf:Nat}{pv:Nat→Aj}{sv cv rv:Aj}{w w':Ae}(h:I7 F n0 b TB X fv ms mg mn mf pv sv cv rv w){j:Nat}{e:AD}{ae:Array Aj}{ac:Nat×Nat}(hg:w.grownBy w' (some j))(hB:w.heap[j]? = some (.cells ae e ac))(hj:n0≤j)(he:Ka e=false∨(j∈X∧j∉TB)):I7 F n0 b TB X fv ms mg mn mf pv sv cv rv w':=by
 have aa:j≠b:=fun q=>by
  subst q;rcases he with he|he;have:=h.B;unfold Ax at this;rw [this] at hB;injection hB with hB;injection hB with _ hB;subst hB;exact Bool.noConfusion (show true=false from he);exact h.bx he.1
 have hk:∀ k,k<w.heap.size→k≠j→w'.heap[k]? = w.heap[k]?:=fun k hk hn=>hg.block k hk fun e=>hn (by injection e)
 have m:∀ {k es},Do w k es→Do w' k es:=fun hm=>hm.C hg fun q=>by
  injection q with q;subst q;obtain ⟨ms,c,hb,_⟩:=hm;rw [hb] at hB;injection hB with hB;cases hB
 have hL:Below n0 w w':=⟨hg.os,hg.tape,hg.output,hg.size,fun k hk=>hg.block k (Eo hk h.L.hn) fun e=>by injection e with e;omega⟩;refine ⟨h.B.C hg fun e=>aa (by injection e with e;exact e.symm),h.hb,h.kF.C hg fun k hk _ e=>by injection e with e;omega,h.hF,⟨m h.T.hs,m h.T.hg,m h.T.hn,m h.T.hf,fun s hs=>(h.T.hp s hs).ac fun k ab ad ⟨cs,fr,hc⟩=>hg.block k ad fun e=>?_⟩,h.L.below hL,h.tx,fun i hi=>Eo (h.xl i hi) hg.size,h.bx⟩;injection e with e;subst e;rcases he with he|he;rw [hc] at hB;injection hB with hB;injection hB with _ hB;subst hB;exact Bool.noConfusion (show true=false from he);exact he.2 ab
theorem Hq.a4{F:Nd}{n0 b:Nat}{TB X:List Nat}{w w':Ae}(h:Hq F n0 b TB X w){j:Nat}{e:AD}{aa:Array Aj}{ab:Nat×Nat}(hg:w.grownBy w' (some j))(hB:w.heap[j]? = some (.cells aa e ab))(hj:n0≤j)(he:Ka e=false∨(j∈X∧j∉TB)):Hq F n0 b TB X w':=by obtain ⟨_,_,_,_,_,_,_,_,_,h⟩:=h;exact (h.a4 hg hB hj he).px
theorem Hq.aa{F:Nd}{n0 b lo:Nat}{TB X Y:List Nat}{w w':Ae}{ks:List Nd}{s:Aj}(h:Hq F n0 b TB X w)(hg:w.grownBy w' s.ownBlock)(hO:Dp Y lo w ks s)(hl:n0≤lo):Hq F n0 b TB X w':=by
 cases hs:s.ownBlock with
 | none=>rw [hs] at hg;exact h.A ⟨hg.os,hg.tape,hg.output,hg.size,fun k hk=>hg.block k hk (fun e=>nomatch e)⟩
 | some k =>
  rw [hs] at hg;obtain ⟨cs,fr,hc⟩:=hO.nd k hs;exact h.a4 hg hc (Cj hl (hO.ge k hs)) (.inl rfl)
theorem Ax.gm{w w':Ae}{b:Nat}{e:AD}{l:List Aj}{ms mg mn mf:Nat}{AU e2 e3 e4:List (List UInt8×Aj)}(h:Ax w b e l)(g:EJ (Hb ms mg mn mf) w w')(s1:Do w ms AU)(s2:Do w mg e2)(s3:Do w mn e3)(s4:Do w mf e4):Ax w' b e l :=
 Ax.gb h g fun hv=>by
 rcases hv with q|q|q|q;exact s1.ao h q.symm;exact s2.ao h q.symm;exact s3.ao h q.symm;exact s4.ao h q.symm
theorem nJ{F:Nd}{S:Ak}(he:S.ee=0)(h:HP F [109,97,105,110]=false):Bg { S with ea:=0,ee:=5 } (Mo F S):=by
 unfold Mo;unfold HP at h;rw [BU (by have:=CF h;omega),AL];rw [show DV 0 5 S = { S with ea:=0,ee:=5 } from LB he 0 5];exact Bg.refl _
theorem vC{F:Nd}(hd:∀ j,j<F.j.length→Ge F j=false)(he:(Es F Ee F.j.length).2.ee=0)(h:HP F [109,97,105,110]=false):Bg { (Es F Ee F.j.length).2 with ea:=0,ee:=5 } (F7 F):=by
 rw [(Sr hd).1];exact nJ he h
theorem bL{F:Nd}(HR:S0 F)(h:HP F [109,97,105,110]=true)(S:Ak):Mo F S=bif (Ac (0<((Jq (A9 F 4 [109,97,105,110]).1).length:Int)) || !BL (GV (A9 F 4 [109,97,105,110]).1) Az) then DV (A9 F 4 [109,97,105,110]).1.z 7 S else S:=by
 unfold HP at h;unfold Mo;rw [Aq (by have:=AH h;omega),AQ,HR _ (AH h),P8]
theorem fH{F:Nd}{TB:List Nat}{ms mg mn mf:Nat}{pv:Nat→Aj}{w:Ae}{s:List UInt8}{p:Option Addr}{m c:Nat}(T:QP F TB ms mg mn mf pv w)(h:HP F s=true)(hp:pv (A9 F 4 s).2.toNat = .slice p m c):m=(Jq (A9 F 4 s).1).length:=by
 obtain ⟨p',c',e,_⟩:=T.hp s (AH h);rw [hp] at e;injection e
theorem qJ{F:Nd}(hd:∀ j,j<F.j.length→Ge F j=false){s:List UInt8}(h:HP F s=true){i:Nat}(hi:i<F.j.length)(ht:(Aa F i).o=s):(A9 F 4 s).1=Aa F i:=by
 obtain ⟨j,hj,k4,e4,e⟩:=Qq (show 0≤(A9 F 4 s).2 from AH h);rcases Nat.lt_trichotomy i j with q|q|q;have:=T6 q hj (ht.trans e4.symm);rw [hd j hj] at this;cases this;subst q;exact e;have:=T6 q hi (e4.trans ht.symm);rw [hd i hi] at this;cases this
theorem lZ{F:Nd}(hd:∀ j,j<F.j.length→Ge F j=false)(he:(Es F Ee F.j.length).2.ee=0)(HR:S0 F)(h:HP F [109,97,105,110]=true)(h3:(Ac (0<((Jq (A9 F 4 [109,97,105,110]).1).length:Int)) || !BL (GV (A9 F 4 [109,97,105,110]).1) Az)=true){i:Nat}(hi:i<F.j.length)(ht:(Aa F i).k=4∧(Aa F i).o=[109,97,105,110]):Bg { (Es F Ee F.j.length).2 with ea:=(Aa F i).z,ee:=7 } (F7 F):=by
 rw [(Sr hd).1,bL HR h,h3,AL,qJ hd h hi ht.2];rw [show DV (Aa F i).z 7 (Es F Ee F.j.length).2 = { (Es F Ee F.j.length).2 with ea:=(Aa F i).z,ee:=7 } from LB he _ _];exact Bg.refl _
theorem uJ{F:Nd}{i:Nat}(h:(!Ac ((Aa F i).k=4) || !Ac ((Aa F i).o=[109,97,105,110]))=false):(Aa F i).k=4∧(Aa F i).o=[109,97,105,110]:=by
 simpa using h
theorem Abu{F:Nd}{i:Nat}(h:∀ j,j<i→¬ ((Aa F j).k=4∧(Aa F j).o=[109,97,105,110]))(k:(!Ac ((Aa F i).k=4) || !Ac ((Aa F i).o=[109,97,105,110]))=true):∀ j,j<i+1→¬ ((Aa F j).k=4∧(Aa F j).o=[109,97,105,110]):=fun j hj q=>by
 by_cases e:j=i;subst e;rw [BU q.1,BU q.2] at k;cases k;exact h j O q
theorem oL(F:Nd)(v:Aj)(D:Nat→Prop)(w:Ae)(d0:Bv w D F.j v)(cr:count F≤1000000)(d5:G7 w.heap.size w):Gg An 13 #[Cd F v] w (Tq F w) fun _ _=>False:=by
 obtain ⟨n0,aw⟩:∃ n,n=w.heap.size:=⟨_,rfl⟩;have bw:Bv w (fun k=>k<n0) F.j v:=Bv.mono d0 fun k _ d6=>by rw [aw];exact d6
 have aa:=bw;have hL:G7 n0 w:=by rw [aw];exact d5
 have ff:=hL;obtain ⟨p,c,rfl,_⟩:=id bw;have ik:=ED F;have g:=AP.refl (CE []) n0 w;refine UX (m:=86) Tryz.func13 J J [(0,True,_)] Bp ?_;refine FO fun K1 ed=>?_;refine Gn [1,1,1,1] ?_;refine Jr J (Ab J) J ?_;intro b1 w1 N1;have l1:=Dw N1 g.size;have g:=BZ g N1.g;have hL:=hL.A (N1.g);have aa:=aa.A (N1.g);have B1:=N1.H;refine En J Cp J ?_;intro b2 w2 N2;have f8:=N2.ne B1;have l2:=Dw N2 g.size;have g:=BZ g N2.g;replace B1:=B1.A (N2.g);have hL:=hL.A (N2.g);have aa:=aa.A (N2.g);have B2:=N2.H;refine En J MP J ?_;intro b3 w3 N3;have gz:=N3.ne B1;have go:=N3.ne B2;have l3:=Dw N3 g.size;have g:=BZ g N3.g;replace B1:=B1.A (N3.g);replace B2:=B2.A (N3.g);have hL:=hL.A (N3.g);have aa:=aa.A (N3.g);have B3:=N3.H;refine En J jS J ?_;intro b4 w4 N4;have gd:=N4.ne B1;have gl:=N4.ne B2;have f0:=N4.ne B3;have l4:=Dw N4 g.size;have g:=BZ g N4.g;replace B1:=B1.A (N4.g);replace B2:=B2.A (N4.g);replace B3:=B3.A (N4.g);have hL:=hL.A (N4.g);have aa:=aa.A (N4.g);have B4:=N4.H;refine EV [(1,_,_),(2,_,_),(3,_,_),(4,_,_)] Bp ?_;refine Ai (ed _ _ _ ?_);refine FO fun K2 d4=>?_;refine FO fun K3 eb=>?_;refine Gn [0,1,3] ?_;refine FG J (A8 A3 (Ab J) J (fun _=>B1.row)) ?_;refine EB J (BF Agw BX (CM (Ab J) (DC)) J) (sR F _ _ _ hL.hL hL.hb aa cr) ?_;rintro jc jd ⟨rfl,a8⟩;refine ⟨fun _=>a8,?_⟩;have g:=BZ g a8;replace B1:=B1.A (a8);replace B2:=B2.A (a8);replace B3:=B3.A (a8);replace B4:=B4.A (a8);have hL:=hL.A (a8);have aa:=aa.A (a8);refine AR J (fun _=>PD (Ab J)) ?_
 refine EV [(1,_,_),(2,_,_),(3,_,_),(4,_,_),(14,_,_)] Bp ?_;refine Ai (eb _ _ _ ?_);refine RX (Ab J) (fun h1=>?_) (fun h1=>?_)
 ·have hv:Hf F=false:=by simpa using h1
  refine FO fun K4 fo=>?_;refine Gn [3,2,2,2] ?_;refine Hg Cp MV CH J J ?_;refine Iq J Fm (Ab J) (Ab J) J J B2 J J ?_;intro jf bn f7;clear B2;intro B2;replace B1:=CL B1 bn;replace B3:=CL B3 bn;replace B4:=CL B4 bn;have g:=Cw g bn O;refine Iq J I2 (Ab J) Bd J J B3 J J ?_;intro it bm f5;clear B3;intro B3;replace B1:=CL B1 bm;replace B2:=CL B2 bm;replace B4:=CL B4 bm;have g:=Cw g bm O;refine Iq J SL (Ab J) Bd J J B4 J J ?_;intro ib bo f3;clear B4;intro B4;replace B1:=CL B1 bo;replace B2:=CL B2 bo;replace B3:=CL B3 bo;have g:=Cw g bo O;refine EV [(1,_,_),(2,_,_),(3,_,_),(4,_,_)] Bp ?_;refine Ai (fo _ _ _ ?_);refine R8 (?_);skip
  refine Q7 (IZ (rs:=[.cell 2 26,.cell 3 3,.cell 4 30]) (vs:=[_,_,_]) J J (GJ J A3 J (by first|exact B1.row|exact B2.row|exact B3.row|exact B4.row) (Oh J Cb (by first|exact B1.y J|exact B2.y J|exact B3.y J|exact B4.y J) (Oh J NI (by first|exact B1.y J|exact B2.y J|exact B3.y J|exact B4.y J) (GD)))) J ?_);exact ⟨⟨_,by rw [WC hv],by rw [WC hv];exact BO (t:=Fr) rfl (IL _ _)⟩,On g aw⟩
 have hv:Hf F=true:=by simpa using h1
 refine Tx (d4 _ _ _ ?_);refine Nl [(1,_,_),(2,_,_),(3,_,_),(4,_,_)] Bp ?_;refine FO fun K5 ep=>?_;refine WP (k:=1) [3,2] J J J ?_;refine AR J (fun _=>RG (DC) (CM (Ab J) (CM (Ab J) (CM (Ab J) (DC))))) ?_;refine Ai (Wu (XQ (Ab J) (DC)) (ep _ _ _ ?_));refine Nl [(1,_,_),(2,_,_),(3,_,_),(4,_,_)] Bp ?_;refine FO fun K6 dw=>?_;refine Gn [0,1,1,1,1,3,1,3] ?_;refine FG J (A8 A3 (Ab J) J (fun _=>B1.row)) ?_;refine QI J ?_;intro fd iq gc bh iv ai;have gu:w.heap.size≤fd:=by have:=g.size;omega
 have g:=g.trans (AP.Y bh);have B1:=B1.A bh;have B2:=B2.A bh;have B3:=B3.A bh;have B4:=B4.A bh;have hL:=hL.A bh;have aa:=aa.A bh;refine QI J ?_;intro fb h6 ho bc i1 am;have gn:w.heap.size≤fb:=by have:=g.size;omega
 have g:=g.trans (AP.Y bc);have B1:=B1.A bc;have B2:=B2.A bc;have B3:=B3.A bc;have B4:=B4.A bc;have hL:=hL.A bc;have aa:=aa.A bc;have ai:=ai.A bc;refine QI J ?_;intro e9 ia hl a7 ir ao;have gp:w.heap.size≤e9:=by have:=g.size;omega
 have g:=g.trans (AP.Y a7);have B1:=B1.A a7;have B2:=B2.A a7;have B3:=B3.A a7;have B4:=B4.A a7;have hL:=hL.A a7;have aa:=aa.A a7;have ai:=ai.A a7;have am:=am.A a7;refine QI J ?_;intro dv i8 gq a3 iw ax;have f1:w.heap.size≤dv:=by have:=g.size;omega
 have g:=g.trans (AP.Y a3);have B1:=B1.A a3;have B2:=B2.A a3;have B3:=B3.A a3;have B4:=B4.A a3;have hL:=hL.A a3;have aa:=aa.A a3;have ai:=ai.A a3;have am:=am.A a3;have ao:=ao.A a3;refine Hg aZ bE (Bk J (Bk J (Bk J (Bk J (Bk J CH))))) J J ?_;refine Jr J (Ab J) J ?_;intro b5 i3 ak;have fj:=ak.ne B1;have fg:=ak.ne B2;have ft:=ak.ne B3;have fu:=ak.ne B4;have ip:=Dw ak g.size;have g:=BZ g ak.g;replace B1:=B1.A (ak.g);replace B2:=B2.A (ak.g);replace B3:=B3.A (ak.g);replace B4:=B4.A (ak.g);have hL:=hL.A (ak.g);have aa:=aa.A (ak.g);have ai:=ai.A (ak.g);have am:=am.A (ak.g);have ao:=ao.A (ak.g);have ax:=ax.A (ak.g);have cg:=ak.H;skip;refine AR J (fun _=>Fj (Ab J)) ?_;refine EV [(1,_,_),(2,_,_),(3,_,_),(4,_,_),(5,_,_)] Bp ?_;refine Ai (dw _ _ _ ?_);refine FO fun K7 dz=>?_;refine Gn [3,2] ?_;refine AR J (Bm J) ?_;refine Mp J (BF vU BX (CM (Ab J) (DC)) J) (pR hv cr O cg aa hL ai am ao ax ⟨⟨O,O,O⟩,⟨O,O⟩,O⟩ ⟨O,O,O,O⟩) ((fun ch w' hz=>Te (u:=Fr) (s:=.slice none 0 0) J hv J J J (B2.gm hz.2.2 ai am ao ax) (B3.gm hz.2.2 ai am ao ax) (B4.gm hz.2.2 ai am ao ax) ⟨O,O,O⟩ (gI (On g aw) hz.2.2 ⟨O,O,O,O⟩) ⟨hz.1,hz.2.1⟩ (Agt F))) ?_;rintro ix b0 ⟨rfl,bg,⟨m2,pv,TB,hE⟩,bs⟩;refine ⟨fun hc=>absurd hc BT,?_⟩;have cz:G w b0:=gI (On g aw) bs ⟨O,O,O,O⟩;have B1:=B1.gm bs ai am ao ax
 have B2:=B2.gm bs ai am ao ax;have B3:=B3.gm bs ai am ao ax;have B4:=B4.gm bs ai am ao ax;have hL:=ff.A cz;have de:=bw.A cz;have aa:=de;have gs:=B3.lt
 have h:Hq F n0 b5 TB (b3::TB) b0:=⟨_,_,_,_,_,pv,_,_,_,hE.B,O,aa,cr,hE.b7,hL,fun j hj=>Ha _ hj,fun j hj=>(by
  rcases Ez.1 hj with q|q
  · omega
  · exact (hE.tb j q).2),fun hm=>(by
  rcases Ez.1 hm with q|q
  · omega
  · have:=(hE.tb b5 q).1;have:=cg.lt;omega)⟩
 have HF:=Aax hv bg;have hTB:∀ j∈TB,b5<j∧j<b0.heap.size:=fun j hj=>⟨by have:=(hE.tb j hj).1;have:=cg.lt;omega,(hE.tb j hj).2⟩;obtain ⟨fx,ez⟩:=WS hv;have du:=WE fx ez;have g:AP (CE (b3::TB)) n0 w b0:=AP.Y cz;refine EV [(1,_,_),(2,_,_),(3,_,_),(4,_,_),(5,_,_)] Bp ?_;refine Ai (dz _ _ _ ?_);refine FO fun K8 ej=>?_;refine Gn [0,1,2] ?_;refine FG J (A8 A3 (Ab J) J (fun _=>B1.row)) ?_;refine EB J (BF XH BX (CM (Ab J) (DC)) J) (Ls F _ _ _) ?_;rintro hr i2 ⟨rfl,bb⟩;refine ⟨fun _=>bb,?_⟩;have g:=BZ g bb;replace B1:=B1.A (bb);replace B2:=B2.A (bb);replace B3:=B3.A (bb);replace B4:=B4.A (bb);have aa:=aa.A (bb);have h:=h.A (bb);refine Iq J Fm (Ab J) (Ab J) J J B2 J J ?_;intro h9 a6 gj;have C2:=B2;clear B2;intro B2;replace B1:=CL B1 a6;replace B3:=CL B3 a6;replace B4:=CL B4 a6;have g:=Cw g a6 O;have h:=h.C a6 C2 O Of;have aa:=aa.C a6 Fv;refine EV [(1,_,_),(2,_,_),(3,_,_),(4,_,_),(5,_,_)] Bp ?_;refine Ai (ej _ _ _ ?_);refine FO fun K9 ey=>?_;refine FO fun io dt=>?_;refine Gn [3,0,3,3] ?_;refine AR J (fun _=>AB AY (Ab J)) ?_;refine FG J (AZ Bh (Ab J) (fun _=>B1.y J)) ?_;refine EI AC J ?_
 refine AR J (fun _=>J1 Bd) ?_;refine EV [(1,_,_),(2,_,_),(3,_,_),(4,_,_),(5,_,_),(29,_,_),(30,_,_),(31,_,_)] Bp ?_;refine Ai (dt _ _ _ ?_);refine Us ?_;refine fF (fun (i:Nat) u1=>(i≤F.j.length∧(Es F Ee i).2.ee=0∧Hq F n0 b5 TB (b3::TB) u1∧∃ s,Ax u1 b2 26 (De (DJ F) s)∧Dp [b1,b2,b3,b4] w.heap.size u1 (Es F Ee i).1 s)∧AP (CE (b3::TB)) n0 w u1) _ [(1,True,_),(2,True,_),(3,True,_),(4,True,_),(5,True,_),(29,True,_),(30,True,_)] (fun (i:Nat)=>[(31,True,.int .i64 i)]) (fun (i:Nat)=>F.j.length-i) (0) ⟨⟨Nat.zero_le _,rfl,h,_,B2,Kr _ _ _⟩,g⟩ (A6 (A7 B1) (A6 (A7 B3) (A6 (A7 B4) (Di _)))) Bp ?_;clear B1 B2 B3 B4;rintro i u1 ⟨d2,dk⟩ ⟨B1,B3,B4,_⟩;replace B1:Ax _ _ _ _:=B1;replace B3:Ax _ _ _ _:=B3;replace B4:Ax _ _ _ _:=B4;have g:=dk;obtain ⟨hi,br,h,s,B2,hO⟩:=d2;obtain ⟨sa,sc,rfl⟩:=hO.slice;have aa:=bw.gt dk (fun k h=>h);have gv:=jP F Ee i;refine FO fun hw c6=>?_;refine Gn [3] ?_;refine AR J (fun _=>Q5 (Ab J) (Ab J)) ?_;refine Ai (c6 _ _ _ ?_);refine Nl [(1,_,_),(2,_,_),(3,_,_),(4,_,_),(5,_,_),(29,_,_),(30,_,_),(31,_,_),(32,_,_)] Bp ?_;refine FO fun je c3=>?_;refine RX (Ab J) (fun h2=>?_) (fun h2=>?_)
 ·have h2:i<F.j.length:=by simp only [BM] at h2;omega
  obtain ⟨e0,p1,c1,hcell,al⟩:=Ba aa (i:=i) h2;obtain ⟨c5,dp⟩:=du _ (NY h2);have iz:=HH h2;refine Tx (c3 _ _ _ ?_);refine Nl [(1,_,_),(2,_,_),(3,_,_),(4,_,_),(5,_,_),(29,_,_),(30,_,_),(31,_,_)] Bp ?_;refine FO fun ie bp=>?_;refine Us ?_;refine FO fun i6 c7=>?_;refine Gn [3,0,1,2] ?_;refine Dk AC J J O e0 ?_;refine FG J (A8 A3 (Ab J) J (fun _=>hcell)) ?_;refine En J Cp J ?_;intro b7 w7 N7;have f4:=N7.ne B1;have g9:=N7.ne B2;have gk:=N7.ne B3;have gg:=N7.ne B4;have l7:=Dw N7 g.size;have hO:=hO.new N7;have g:=BZ g N7.g;replace B1:=B1.A (N7.g);replace B2:=B2.A (N7.g);replace B3:=B3.A (N7.g);replace B4:=B4.A (N7.g);have h:=h.A (N7.g);have al:=al.A (N7.g);have B7:=N7.H;refine Iq J Fm (Ab J) (Ab J) J J B7 J J ?_;intro i9 au gf;have C7:=B7;clear B7;intro B7;replace B1:=CL B1 au;replace B2:=CL B2 au;replace B3:=CL B3 au;replace B4:=CL B4 au;have g:=Cw g au O;have h:=h.C au C7 O Of;have al:=al.C au Fv;have hO:=hO.C au BR
  refine EV [(1,_,_),(2,_,_),(3,_,_),(4,_,_),(5,_,_),(7,_,_),(29,_,_),(30,_,_),(31,_,_)] Bp ?_;refine Ai (c7 _ _ _ ?_);refine vD [2,3,4] (Qu (b3::TB) n0) [3,0,3,0,1,3,1,2,3,2,3,2] [0,1,0,0,12,3,0,127,255,511,255,1279] CG Ag [0,1,2,3,4,5,6,7,8,9,10,11] J J ?_;have g:=NX g;replace B1:=B1.A (G.drew _);replace B2:=B2.A (G.drew _);replace B3:=B3.A (G.drew _);replace B4:=B4.A (G.drew _);replace B7:=B7.A (G.drew _);have ai:=ai.A (G.drew _);have am:=am.A (G.drew _);have ao:=ao.A (G.drew _);have ax:=ax.A (G.drew _);have h:=h.A (G.drew _);have al:=al.A (G.drew _);have hO:=hO.A (G.drew _);refine Hj (L':=[1,2,3,4,5,6,7,8,9,10,11]) 0 J J J (fun _=>AB AY (Ab J)) ?_;refine Mv (L':=[2,3,4,5,6,7,8,9,10,11]) 1 J J J (fun w1 hx=>AZ Bh (Ab J) (fun _=>(B2.gt hx J).y J)) ?_;refine Hj (L':=[3,4,5,6,7,8,9,10,11]) 2 J J J (Bm J) ?_;refine Mv (L':=[4,5,6,7,8,9,10,11]) 3 J J J (fun w1 hx=>A8 A3 (Ab J) J (fun _=>(B7.gt hx J).row)) ?_;refine Hj (L':=[4,6,7,8,9,10,11]) 5 J J J (fun _=>Lp AC (Ab J)) ?_;refine Lx 4 6 J J ?_ ?_
  ·refine Bt (L':=[6,7,8,9,10,11]) [3,0,3,0,2,3,1,2,3,2,3,2] rfl rfl rfl ?_
   have bv:=hO.lt;refine Mp J (BF ZX BX (CM (Ab J) (CM (Ab J) (DC))) J) (aN [b1,b2,b3,b4,b7] HF c5 dp O h br al (CW.2 ⟨B1.lt,CW.2 ⟨B2.lt,CW.2 ⟨B3.lt,CW.2 ⟨B4.lt,CW.2 ⟨B7.lt,IH _⟩⟩⟩⟩⟩) g.size) ((fun ch w' hz=>aS J hv J J J (B2.gt hz.2.2 J) (B3.gx hz.2.2 BR) (B4.gt hz.2.2 J) ⟨O,O,O⟩ (gM (On g aw) hz.2.2 aw) ⟨hz.1,hz.2.1⟩ (Zo bg h2))) ?_;rintro ec fz ⟨⟨d1,fs,rfl,cb,ah⟩,a9,h,aj⟩;refine ⟨Fa,?_⟩;have g:=Hc g aj;try replace B1:=B1.gt aj rfl
   try replace B2:=B2.gt aj rfl
   try replace B4:=B4.gt aj rfl
   try replace B7:=B7.gt aj rfl
   have hO:=hO.gt aj rfl;have B3:=B3.gx aj BR;obtain ⟨dh,cw,ba,ah⟩:=bV bv ah cb;refine Bs (aj) ?_;refine AW 6 J J ?_;refine Bt (L':=[7,8,9,10,11]) [3,0,3,0,2,3,1,2,3,2,3,2] J J J ?_;refine Fe _ J AC Cp (Bk J CH) J J ?_;intro cd eu ab;have cn:=ab.ne B1;have c0:=ab.ne B2;have ce:=ab.ne B3;have ct:=ab.ne B4;have b6:=ab.ne B7;have e5:=Dw ab g.size;have hO:=hO.new ab;have ah:=ah.new ab;have g:=BZ g ab.g;replace B1:=B1.A (ab.g);replace B2:=B2.A (ab.g);replace B3:=B3.A (ab.g);replace B4:=B4.A (ab.g);replace B7:=B7.A (ab.g);have h:=h.A (ab.g);have bj:=ab.H;refine Bs (AP.Y (ab.g)) ?_;refine AW 7 J J ?_;refine DN (L':=[8,9,10,11]) [3,0,3,0,2,3,1,2,3,2,3,2] J J J J ?_;refine Ya J AC Cp J (Ab J) hO (Ab J) J bj.row (DG (t:=Fr) (v:=.slice none 0 0) (Ob _ _)) (by simp;omega) Dn ⟨by have:=g.size;omega,by have q1:=B1.lt;have q2:=B2.lt;have q3:=B3.lt;have q4:=B4.lt;have q7:=B7.lt;have fe:=bj.lt;simp;omega⟩ ?_;intro fh d8 fa cp ad bi;have B1:=B1.C ad (hO.ne BR);have B2:=B2.C ad (hO.ne BR);have B3:=B3.C ad (hO.ne BR);have B4:=B4.C ad (hO.ne BR);have g:=EQ g ad (fun k hk=>hO.ge k hk);have h:=h.aa ad hO O;try obtain ⟨ah,bu⟩:=ah.a8 hO (fun k hk=>.inr (cw k hk)) ad bi
   replace hO:=cp;refine DL ?_;have n7:=hO.ne (b:=b7) BR;have e8:=hO.ne (b:=cd) BR;have hO:=hO.sub (Y:=[b1,b2,b3,b4]) DZ;obtain ⟨dx,d3,d9,es,_⟩:=hO.av;injection es with AU _ e2;subst AU e2;refine Hj (L':=[9,10,11]) 8 J J J (fun _=>KQ AC (Ab J) (Ab J) (fun _=>by simp;omega)) ?_;refine Hj (L':=[9,11]) 10 J J J (fun _=>AB AY (Ab J)) ?_;refine Lx 9 11 J J ?_ ?_
   ·refine DN (L':=[11]) [3,0,3,0,2,3,1,2,3,2,3,2] rfl rfl rfl rfl ?_
    obtain ⟨ck,cq,cy,bf,az,ay,ag,bk,a2⟩:=hO.av;injection bf with e3 _ e4;injection e3 with e3;injection e3 with e3 _ _;subst e3 e4;have eo:0+((Es F Ee i).1.length:Int).toNat*9=(Es F Ee i).1.length*9:=by rw [FI];omega
    refine Df J Fm (Ab J) (Ab J) J J az (Nat.ble_eq.mpr (by rw [eo];exact ay)) J ?_;intro wS ac cu BS;rw [eo] at BS;have hO:=a2 ac BS (Fl ah ba DZ bu);have B1:=B1.C ac (fun e=>ag (by injection e with e;simp [← e]));have B2:=B2.C ac (fun e=>ag (by injection e with e;simp [← e]));have B3:=B3.C ac (fun e=>ag (by injection e with e;simp [← e]));have B4:=B4.C ac (fun e=>ag (by injection e with e;simp [← e]));have g:=Cw g ac bk;have h:=h.C ac az O (.inl rfl);refine DL ?_;refine AW 11 J J ?_;refine DN (L':=[]) [3,0,3,0,2,3,1,2,3,2,3,2] J J J J ?_;refine Ik J Me (Ab J) (Ab J) J B2 J J ?_;intro fq af dq;have C2:=B2;clear B2;intro B2;replace B1:=CL B1 af;replace B3:=CL B3 af;replace B4:=CL B4 af;have g:=Cw g af O;have h:=h.C af C2 O Of;have hO:=hO.C af BR;refine DL ?_;refine Ke [(1,_,_),(2,_,_),(3,_,_),(4,_,_),(5,_,_),(29,_,_),(30,_,_),(31,_,_)] Bp ?_;refine FW (bp _ _ _ ?_);refine Gn [3,3] ?_;refine H2 J J O ?_;refine AR J (Bm J) ?_;refine EV [(31,_,_),(1,_,_),(2,_,_),(3,_,_),(4,_,_),(5,_,_),(29,_,_),(30,_,_)] Bp ?_;refine Ai (fun a ha=>?_);refine ⟨rfl,?_⟩
    exact ⟨i+1,ha,⟨⟨h2,a9,h,_,B2,(by have q:=hO;simp only [F3,Gc] at q ⊢;exact q)⟩,g⟩,(A6 (A7 B1) (A6 (A7 B3) (A6 (A7 B4) (Di _)))),O⟩
   ·refine DN (L':=[9]) [3,0,3,0,2,3,1,2,3,2,3,2] rfl rfl rfl rfl ?_
    refine Ik J Me (Ab J) (Ab J) J B2 J J ?_;intro ek ae c8;have C2:=B2;clear B2;intro B2;replace B1:=CL B1 ae;replace B3:=CL B3 ae;replace B4:=CL B4 ae;have g:=Cw g ae O;have h:=h.C ae C2 O Of;have hO:=hO.C ae BR;have ah:=ah.C ae Ch;refine DL ?_;refine AW 9 J J ?_;refine DN (L':=[]) [3,0,3,0,2,3,1,2,3,2,3,2] J J J J ?_;obtain ⟨ck,cq,cy,bf,az,ay,ag,bk,a2⟩:=hO.av;injection bf with e3 _ e4;injection e3 with e3;injection e3 with e3 _ _;subst e3 e4;have eo:0+((Es F Ee i).1.length:Int).toNat*9=(Es F Ee i).1.length*9:=by rw [FI];omega
    refine Df J Fm (Ab J) (Ab J) J J az (Nat.ble_eq.mpr (by rw [eo];exact ay)) J ?_;intro wS ac cu BS;rw [eo] at BS;have hO:=a2 ac BS (Fl ah ba DZ bu);have B1:=B1.C ac (fun e=>ag (by injection e with e;simp [← e]));have B2:=B2.C ac (fun e=>ag (by injection e with e;simp [← e]));have B3:=B3.C ac (fun e=>ag (by injection e with e;simp [← e]));have B4:=B4.C ac (fun e=>ag (by injection e with e;simp [← e]));have g:=Cw g ac bk;have h:=h.C ac az O (.inl rfl);refine DL ?_;refine Ke [(1,_,_),(2,_,_),(3,_,_),(4,_,_),(5,_,_),(29,_,_),(30,_,_),(31,_,_)] Bp ?_;refine FW (bp _ _ _ ?_);refine Gn [3,3] ?_;refine H2 J J O ?_;refine AR J (Bm J) ?_;refine EV [(31,_,_),(1,_,_),(2,_,_),(3,_,_),(4,_,_),(5,_,_),(29,_,_),(30,_,_)] Bp ?_;refine Ai (fun a ha=>?_);refine ⟨rfl,?_⟩;exact ⟨i+1,ha,⟨⟨h2,a9,h,_,B2,(by have q:=hO;simp only [F3,Gc] at q ⊢;exact q)⟩,g⟩,(A6 (A7 B1) (A6 (A7 B3) (A6 (A7 B4) (Di _)))),O⟩
  ·refine Bt (L':=[4,7,8,9,10,11]) [3,0,3,0,2,3,1,2,3,2,3,2] rfl rfl rfl ?_
   refine Fe _ J AC Cp (Bk J CH) J J ?_;intro cd eu ab;have cn:=ab.ne B1;have c0:=ab.ne B2;have ce:=ab.ne B3;have ct:=ab.ne B4;have b6:=ab.ne B7;have e5:=Dw ab g.size;have hO:=hO.new ab;have g:=BZ g ab.g;replace B1:=B1.A (ab.g);replace B2:=B2.A (ab.g);replace B3:=B3.A (ab.g);replace B4:=B4.A (ab.g);replace B7:=B7.A (ab.g);have h:=h.A (ab.g);have al:=al.A (ab.g);have bj:=ab.H;refine Bs (AP.Y (ab.g)) ?_;refine AW 4 J J ?_;refine Bt (L':=[7,8,9,10,11]) [3,0,3,0,2,3,1,2,3,2,3,2] J J J ?_;have bv:=hO.lt;refine Mp J (BF ZX BX (CM (Ab J) (CM (Ab J) (DC))) J) (aN [b1,b2,b3,b4,b7] HF c5 dp O h br al (CW.2 ⟨B1.lt,CW.2 ⟨B2.lt,CW.2 ⟨B3.lt,CW.2 ⟨B4.lt,CW.2 ⟨B7.lt,IH _⟩⟩⟩⟩⟩) g.size) ((fun ch w' hz=>aS J hv J J J (B2.gt hz.2.2 J) (B3.gx hz.2.2 BR) (B4.gt hz.2.2 J) ⟨O,O,O⟩ (gM (On g aw) hz.2.2 aw) ⟨hz.1,hz.2.1⟩ (Zo bg h2))) ?_;rintro ec fz ⟨⟨d1,fs,rfl,cb,ah⟩,a9,h,aj⟩;refine ⟨Fa,?_⟩;have g:=Hc g aj;try replace B1:=B1.gt aj rfl
   try replace B2:=B2.gt aj rfl
   try replace B4:=B4.gt aj rfl
   try replace B7:=B7.gt aj rfl
   try replace bj:=bj.gt aj rfl
   have hO:=hO.gt aj rfl;have B3:=B3.gx aj BR;obtain ⟨dh,cw,ba,ah⟩:=bV bv ah cb;refine Bs (aj) ?_;refine AW 7 J J ?_;refine DN (L':=[8,9,10,11]) [3,0,3,0,2,3,1,2,3,2,3,2] J J J J ?_;refine Ya J AC Cp J (Ab J) hO (Ab J) J bj.row (DG (t:=Fr) (v:=.slice none 0 0) (Ob _ _)) (by simp;omega) Dn ⟨by have:=g.size;omega,by have q1:=B1.lt;have q2:=B2.lt;have q3:=B3.lt;have q4:=B4.lt;have q7:=B7.lt;have fe:=bj.lt;simp;omega⟩ ?_;intro fh d8 fa cp ad bi;have B1:=B1.C ad (hO.ne BR);have B2:=B2.C ad (hO.ne BR);have B3:=B3.C ad (hO.ne BR);have B4:=B4.C ad (hO.ne BR);have g:=EQ g ad (fun k hk=>hO.ge k hk);have h:=h.aa ad hO O;try obtain ⟨ah,bu⟩:=ah.a8 hO (fun k hk=>.inr (cw k hk)) ad bi
   replace hO:=cp;refine DL ?_;have n7:=hO.ne (b:=b7) BR;have e8:=hO.ne (b:=cd) BR;have hO:=hO.sub (Y:=[b1,b2,b3,b4]) DZ;obtain ⟨dx,d3,d9,es,_⟩:=hO.av;injection es with AU _ e2;subst AU e2;refine Hj (L':=[9,10,11]) 8 J J J (fun _=>KQ AC (Ab J) (Ab J) (fun _=>by simp;omega)) ?_;refine Hj (L':=[9,11]) 10 J J J (fun _=>AB AY (Ab J)) ?_;refine Lx 9 11 J J ?_ ?_
   ·refine DN (L':=[11]) [3,0,3,0,2,3,1,2,3,2,3,2] rfl rfl rfl rfl ?_
    obtain ⟨ck,cq,cy,bf,az,ay,ag,bk,a2⟩:=hO.av;injection bf with e3 _ e4;injection e3 with e3;injection e3 with e3 _ _;subst e3 e4;have eo:0+((Es F Ee i).1.length:Int).toNat*9=(Es F Ee i).1.length*9:=by rw [FI];omega
    refine Df J Fm (Ab J) (Ab J) J J az (Nat.ble_eq.mpr (by rw [eo];exact ay)) J ?_;intro wS ac cu BS;rw [eo] at BS;have hO:=a2 ac BS (Fl ah ba DZ bu);have B1:=B1.C ac (fun e=>ag (by injection e with e;simp [← e]));have B2:=B2.C ac (fun e=>ag (by injection e with e;simp [← e]));have B3:=B3.C ac (fun e=>ag (by injection e with e;simp [← e]));have B4:=B4.C ac (fun e=>ag (by injection e with e;simp [← e]));have g:=Cw g ac bk;have h:=h.C ac az O (.inl rfl);refine DL ?_;refine AW 11 J J ?_;refine DN (L':=[]) [3,0,3,0,2,3,1,2,3,2,3,2] J J J J ?_;refine Ik J Me (Ab J) (Ab J) J B2 J J ?_;intro fq af dq;have C2:=B2;clear B2;intro B2;replace B1:=CL B1 af;replace B3:=CL B3 af;replace B4:=CL B4 af;have g:=Cw g af O;have h:=h.C af C2 O Of;have hO:=hO.C af BR;refine DL ?_;refine Ke [(1,_,_),(2,_,_),(3,_,_),(4,_,_),(5,_,_),(29,_,_),(30,_,_),(31,_,_)] Bp ?_;refine FW (bp _ _ _ ?_);refine Gn [3,3] ?_;refine H2 J J O ?_;refine AR J (Bm J) ?_;refine EV [(31,_,_),(1,_,_),(2,_,_),(3,_,_),(4,_,_),(5,_,_),(29,_,_),(30,_,_)] Bp ?_;refine Ai (fun a ha=>?_);refine ⟨rfl,?_⟩
    exact ⟨i+1,ha,⟨⟨h2,a9,h,_,B2,(by have q:=hO;simp only [F3,Gc] at q ⊢;exact q)⟩,g⟩,(A6 (A7 B1) (A6 (A7 B3) (A6 (A7 B4) (Di _)))),O⟩
   ·refine DN (L':=[9]) [3,0,3,0,2,3,1,2,3,2,3,2] rfl rfl rfl rfl ?_
    refine Ik J Me (Ab J) (Ab J) J B2 J J ?_;intro ek ae c8;have C2:=B2;clear B2;intro B2;replace B1:=CL B1 ae;replace B3:=CL B3 ae;replace B4:=CL B4 ae;have g:=Cw g ae O;have h:=h.C ae C2 O Of;have hO:=hO.C ae BR;have ah:=ah.C ae Ch;refine DL ?_;refine AW 9 J J ?_;refine DN (L':=[]) [3,0,3,0,2,3,1,2,3,2,3,2] J J J J ?_;obtain ⟨ck,cq,cy,bf,az,ay,ag,bk,a2⟩:=hO.av;injection bf with e3 _ e4;injection e3 with e3;injection e3 with e3 _ _;subst e3 e4;have eo:0+((Es F Ee i).1.length:Int).toNat*9=(Es F Ee i).1.length*9:=by rw [FI];omega
    refine Df J Fm (Ab J) (Ab J) J J az (Nat.ble_eq.mpr (by rw [eo];exact ay)) J ?_;intro wS ac cu BS;rw [eo] at BS;have hO:=a2 ac BS (Fl ah ba DZ bu);have B1:=B1.C ac (fun e=>ag (by injection e with e;simp [← e]));have B2:=B2.C ac (fun e=>ag (by injection e with e;simp [← e]));have B3:=B3.C ac (fun e=>ag (by injection e with e;simp [← e]));have B4:=B4.C ac (fun e=>ag (by injection e with e;simp [← e]));have g:=Cw g ac bk;have h:=h.C ac az O (.inl rfl);refine DL ?_;refine Ke [(1,_,_),(2,_,_),(3,_,_),(4,_,_),(5,_,_),(29,_,_),(30,_,_),(31,_,_)] Bp ?_;refine FW (bp _ _ _ ?_);refine Gn [3,3] ?_;refine H2 J J O ?_;refine AR J (Bm J) ?_;refine EV [(31,_,_),(1,_,_),(2,_,_),(3,_,_),(4,_,_),(5,_,_),(29,_,_),(30,_,_)] Bp ?_;refine Ai (fun a ha=>?_);refine ⟨rfl,?_⟩;exact ⟨i+1,ha,⟨⟨h2,a9,h,_,B2,(by have q:=hO;simp only [F3,Gc] at q ⊢;exact q)⟩,g⟩,(A6 (A7 B1) (A6 (A7 B3) (A6 (A7 B4) (Di _)))),O⟩
 have h2:i=F.j.length:=by simp only [CB] at h2;omega
 subst h2;refine uC J (ey _ _ _ ?_);refine Nl [(1,_,_),(2,_,_),(3,_,_),(4,_,_),(5,_,_)] Bp ?_;refine FO fun ij db=>?_;refine Gn [3,3,3,0,0,3,3,3,1,2,3] ?_;obtain ⟨fv,ns,ng,nn,nf,qv,sv,cv,rv,hP⟩:=id h;obtain ⟨fk,fp,fm,fc,fy,ef,dn⟩:=WV hP.T [109,97,105,110];refine AR J (Bm J) ?_;refine AR J (fun _=>FZ (Ab J)) ?_;refine AR J (fun _=>AB Rb (Ab J)) ?_;refine FG J (AZ Sj (Ab J) (fun _=>hP.B.y J)) ?_;refine FG J (UY ef hP.T.hf (Ab J) Bd) ?_;refine AR J (Bm J) ?_;refine AR J (fun _=>Gr (Ab J) J) ?_;refine AR J (fun _=>Gr (Ab J) J) ?_;refine En J Pg J ?_;intro b8 w8 N8;have gr:=N8.ne B1;have f2:=N8.ne B2;have f6:=N8.ne B3;have gi:=N8.ne B4;have l8:=Dw N8 g.size;have hO:=hO.new N8;have g:=BZ g N8.g;replace B1:=B1.A (N8.g);replace B2:=B2.A (N8.g);replace B3:=B3.A (N8.g);replace B4:=B4.A (N8.g);have aa:=aa.A (N8.g);have h:=h.A (N8.g);have B8:=N8.H;refine Iq J Tt (Ab J) (Ab J) J J B8 J J ?_;intro hy av f9;have C8:=B8;clear B8;intro B8;replace B1:=CL B1 av;replace B2:=CL B2 av;replace B3:=CL B3 av;replace B4:=CL B4 av;have g:=Cw g av O;have h:=h.C av C8 O Of
 have aa:=aa.C av Fv;have hO:=hO.C av BR;refine AR J (fun _=>Fj (Ab J)) ?_;refine EV [(1,_,_),(2,_,_),(3,_,_),(4,_,_),(8,_,_),(9,_,_)] Bp ?_;refine Ai (db _ _ _ ?_);refine FO fun jb dg=>?_;refine Gn [3,1] ?_;refine AR J (Bm J) ?_;refine Mp J (BF G1 BX (CM (Ab J) (CM Bd (CM Bd (DC)))) J) (GS _ _ _ _) ((fun ch w' hz=>Te J hv J J J (B2.A hz.2.2) (B3.A hz.2.2) (B4.A hz.2.2) ⟨O,O,O⟩ (On (g.trans (AP.Y hz.2.2)) aw) (T:={ (Es F Ee F.j.length).2 with ea:=0,ee:=5 }) ⟨hz.2.1,by show ¬ (5:Int)=0;decide⟩ (vC bg br hz.1))) ?_;rintro h7 iy ⟨rfl,a1,a4⟩;refine ⟨fun _=>a4,?_⟩;have g:=BZ g a4;replace B1:=B1.A (a4);replace B2:=B2.A (a4);replace B3:=B3.A (a4);replace B4:=B4.A (a4);replace B8:=B8.A (a4);have aa:=aa.A (a4);have h:=h.A (a4);have hO:=hO.A (a4);refine EV [(1,_,_),(2,_,_),(3,_,_),(4,_,_),(8,_,_)] Bp ?_;refine Ai (dg _ _ _ ?_);refine FO fun ii dc=>?_;refine FO fun ic dj=>?_;refine Gn [3,0,3,3,3,3,0,3,3,3] ?_;refine AR J (fun _=>AB UD (Ab J)) ?_;refine FG J (AZ Nm (Ab J) (fun _=>B8.y J)) ?_;refine EI Jb J ?_;refine AR J (fun _=>QV (Ab J) Bd) ?_;refine AR J (Bm J) ?_;refine Ay J J J (fun _=>AB TS (Ab J)) ?_;refine BQ J J J (A8 Cf (Ah J id) J (fun _=>B8.row.part 2 2)) ?_;refine Ay J J J (fun _=>Jj [_,_] FF J Ia (IR) J) ?_;refine Ay J J J (fun _=>Xk Iv (Ah J id) (Ah J id) J) ?_;refine AR J (fun _=>FR (Ab J) (Ah J id)) ?_
 refine EV [(1,_,_),(2,_,_),(3,_,_),(4,_,_),(65,_,_)] Bp ?_;refine Ai (dj _ _ _ ?_);refine RX (Ab J) (fun h3=>?_) (fun h3=>?_)
 ·obtain ⟨b9,bt,ci⟩:=dn a1
  rw [b9] at bt;have cj:=fH hP.T a1 bt;have h3:(Ac (0<((Jq (A9 F 4 [109,97,105,110]).1).length:Int)) || !BL (GV (A9 F 4 [109,97,105,110]).1) Az)=true:=by rw [← QU,← ci,← cj];exact h3
  refine FO fun im dl=>?_;refine Gn [3,0,3,3] ?_;refine AR J (fun _=>AB AY (Ab J)) ?_;refine FG J (AZ Bh (Ab J) (fun _=>B1.y J)) ?_;refine EI AC J ?_;refine AR J (fun _=>J1 Bd) ?_;refine EV [(2,_,_),(3,_,_),(4,_,_),(67,_,_),(68,_,_),(69,_,_)] Bp ?_;refine Ai (dl _ _ _ ?_);refine Us ?_;refine fF (fun (i:Nat) u2=>(i≤F.j.length∧∀ j,j<i→¬ ((Aa F j).k=4∧(Aa F j).o=[109,97,105,110]))∧AP (CE (b3::TB)) n0 w u2) _ [(2,True,_),(3,True,_),(4,True,_),(67,True,_),(68,True,_)] (fun (i:Nat)=>[(69,True,.int .i64 i)]) (fun (i:Nat)=>F.j.length-i) (0) ⟨⟨Nat.zero_le _,fun j hj=>absurd hj O⟩,g⟩ (A6 (A7 B1) (A6 (A7 B2) (A6 (A7 B3) (A6 (A7 B4) (A6 (A7 B8) (Di _)))))) Bp ?_;clear B1 B2 B3 B4 B8;rintro i u2 ⟨e6,da⟩ ⟨B1,B2,B3,B4,B8,_⟩;replace B1:Ax _ _ _ _:=B1;replace B2:Ax _ _ _ _:=B2;replace B3:Ax _ _ _ _:=B3;replace B4:Ax _ _ _ _:=B4;replace B8:Ax _ _ _ _:=B8;have g:=da;obtain ⟨hi,di⟩:=e6;have aa:=bw.gt da (fun k h=>h);refine FO fun ja c2=>?_;refine Gn [3] ?_;refine AR J (fun _=>Q5 (Ab J) (Ab J)) ?_;refine Ai (c2 _ _ _ ?_);refine Nl [(2,_,_),(3,_,_),(4,_,_),(67,_,_),(68,_,_),(69,_,_),(70,_,_)] Bp ?_;refine FO fun i5 dm=>?_;refine RX (Ab J) (fun h4=>?_) (fun h4=>?_)
  ·have h4:i<F.j.length:=by simp only [BM] at h4;omega
   obtain ⟨e0,p1,c1,hcell,al⟩:=Ba aa (i:=i) h4;refine Tx (dm _ _ _ ?_);refine Nl [(2,_,_),(3,_,_),(4,_,_),(67,_,_),(68,_,_),(69,_,_)] Bp ?_;refine FO fun iu c4=>?_;refine Us ?_;refine FO fun h8 dd=>?_;refine Gn [3,0,1,2] ?_;refine Dk AC J J O e0 ?_;refine FG J (A8 A3 (Ab J) J (fun _=>hcell)) ?_;refine En J Cp J ?_;intro h5 il ap;have dy:=ap.ne B1;have fw:=ap.ne B2;have ei:=ap.ne B3;have ew:=ap.ne B4;have d7:=ap.ne B8;have hu:=Dw ap g.size;have g:=BZ g ap.g;replace B1:=B1.A (ap.g);replace B2:=B2.A (ap.g);replace B3:=B3.A (ap.g);replace B4:=B4.A (ap.g);replace B8:=B8.A (ap.g);have bq:=ap.H;refine Iq J Fm (Ab J) (Ab J) J J bq J J ?_;intro i0 a5 gy;clear bq;intro bq;replace B1:=CL B1 a5;replace B2:=CL B2 a5;replace B3:=CL B3 a5;replace B4:=CL B4 a5;replace B8:=CL B8 a5;have g:=Cw g a5 O;refine EV [(2,_,_),(3,_,_),(4,_,_),(11,_,_),(67,_,_),(68,_,_),(69,_,_)] Bp ?_;refine Ai (dd _ _ _ ?_);refine Gn [3,0,3,3,3,0,3,3,3,0,1] ?_;refine AR J (fun _=>AB FP (Ab J)) ?_;refine FG J (AZ Cb (Ab J) (fun _=>bq.y J)) ?_;refine AR J (fun _=>IA (Ab J) Bd) ?_
   refine AR J (Bm J) ?_;refine Ay J J J (fun _=>AB E2 (Ab J)) ?_;refine BQ J J J (AZ DW (Ah J id) (fun _=>bq.y J)) ?_;refine Ay J J J (fun _=>R4 (Ah J id) Bd) ?_;refine AR J (fun _=>FR (Ab J) (Ah J id)) ?_;refine AR J (fun _=>AB H7 (Ab J)) ?_;refine FG J (AZ Cb (Ab J) (fun _=>bq.y J)) ?_;refine Mp J (BF G1 BX (CM (Ab J) (CM (Ab J) (CM Bd (DC)))) J) (GS _ _ _ _) ((fun ch w' hz=>Te J hv J J J (B2.A hz.2.2) (B3.A hz.2.2) (B4.A hz.2.2) ⟨O,O,O⟩ (On (g.trans (AP.Y hz.2.2)) aw) (T:={ (Es F Ee F.j.length).2 with ea:=(Aa F i).z,ee:=7 }) ⟨hz.2.1,by show ¬ (7:Int)=0;decide⟩ (lZ bg br HF.res a1 h3 h4 (uJ hz.1)))) ?_;rintro i7 ih ⟨rfl,c9,be⟩;refine ⟨fun _=>be,?_⟩;have g:=BZ g be;replace B1:=B1.A (be);replace B2:=B2.A (be);replace B3:=B3.A (be);replace B4:=B4.A (be);replace B8:=B8.A (be);refine EV [(2,_,_),(3,_,_),(4,_,_),(67,_,_),(68,_,_),(69,_,_)] Bp ?_;refine Ai (c4 _ _ _ ?_);refine Gn [3,3] ?_;refine H2 J J O ?_;refine AR J (Bm J) ?_;refine EV [(69,_,_),(2,_,_),(3,_,_),(4,_,_),(67,_,_),(68,_,_)] Bp ?_;refine Ai (fun a ha=>?_);refine ⟨rfl,?_⟩;exact ⟨i+1,ha,⟨⟨h4,Abu di c9⟩,g⟩,(A6 (A7 B1) (A6 (A7 B2) (A6 (A7 B3) (A6 (A7 B4) (A6 (A7 B8) (Di _)))))),O⟩
  exfalso;have h4:i=F.j.length:=by simp only [CB] at h4;omega
  obtain ⟨j,hj,k4,e4,_⟩:=Qq (show 0≤(A9 F 4 [109,97,105,110]).2 from AH a1);exact di j O ⟨k4,e4⟩;done
 obtain ⟨b9,bt,ci⟩:=dn a1;rw [b9] at bt;have cj:=fH hP.T a1 bt;have h3:(Ac (0<((Jq (A9 F 4 [109,97,105,110]).1).length:Int)) || !BL (GV (A9 F 4 [109,97,105,110]).1) Az)=false:=by rw [← QU,← ci,← cj];exact h3
 refine Tx (dc _ _ _ ?_);refine Nl [(2,_,_),(3,_,_),(4,_,_)] Bp ?_;refine FO fun ig df=>?_;refine Gn [0,2,2,2] ?_;refine FG J (A8 A3 (Ab J) J (fun _=>B2.row)) ?_;refine Iq J Fm (Ab J) (Ab J) J J B2 J J ?_;intro gw an eh;have C2:=B2;clear B2;intro B2;replace B1:=CL B1 an;replace B3:=CL B3 an;replace B4:=CL B4 an;replace B8:=CL B8 an;have g:=Cw g an O;have h:=h.C an C2 O Of;have hO:=hO.C an BR;refine Iq J I2 (Ab J) Bd J J B3 J J ?_;intro gh aq e7;clear B3;intro B3;replace B1:=CL B1 aq;replace B2:=CL B2 aq;replace B4:=CL B4 aq;replace B8:=CL B8 aq;have g:=Cw g aq O;have hO:=hO.C aq BR;refine Iq J SL (Ab J) Bd J J B4 J J ?_;intro hh ar el;clear B4;intro B4;replace B1:=CL B1 ar
 replace B2:=CL B2 ar;replace B3:=CL B3 ar;replace B8:=CL B8 ar;have g:=Cw g ar O;have hO:=hO.C ar BR;refine EV [(2,_,_),(3,_,_),(4,_,_)] Bp ?_;refine Ai (df _ _ _ ?_);refine R8 (?_);refine rO Zv Adm ?_;rintro jg i4 ⟨_,bz⟩;have B2:=B2.A bz;have B3:=B3.A bz;have B4:=B4.A bz;have hO:=hO.A bz;have g:=g.trans (AP.Y bz);refine Q7 (IZ (rs:=[.cell 2 26,.cell 3 3,.cell 4 30]) (vs:=[_,_,_]) J J (GJ J A3 J (by first|exact B1.row|exact B2.row|exact B3.row|exact B4.row|exact B8.row) (Oh J Cb (by first|exact B1.y J|exact B2.y J|exact B3.y J|exact B4.y J|exact B8.y J) (Oh J NI (by first|exact B1.y J|exact B2.y J|exact B3.y J|exact B4.y J|exact B8.y J) (GD)))) J ?_);have er:D8 F=(LC F,0,0):=YX hv (by rw [(Sr bg).1,bL HF.res a1,h3];exact br);exact ⟨⟨_,by rw [er],by rw [er,(Sr bg).2];exact BO (t:=AF F _ Az) rfl hO.kd⟩,On g aw⟩
theorem qO(F:Nd)(v:Aj)(D:Nat→Prop)(w:Ae)(ab:Bv w D F.j v)(ac:count F≤1000000)(aa:G7 w.heap.size w):Bz An 13 #[Cd F v] w (Tq F w) :=
 (oL F v D w ab ac aa).ret fun _ _ h=>h
theorem aB(F:Nd)(v:Aj)(D:Nat→Prop)(w:Ae){m0:Nat}(Z:List Nat)(aa:Bv w D F.j v)(ab:count F≤1000000)(ac:G7 w.heap.size w)(hZ:∀ j∈Z,j<w.heap.size)(hm:m0≤w.heap.size) :
 Bz An 13 #[Cd F v] w fun r w'=>(∃ p c,r = .tuple #[Cd (D8 F).1 (.slice p (D8 F).1.j.length c),.int .i64 (D8 F).2.1,.int .i64 (D8 F).2.2]∧m0≤w.heap.size∧EP w.heap.size Z w' (D8 F).1.j (.slice p (D8 F).1.j.length c))∧G w w' :=
 (qO F v D w aa ab ac).mono fun r w' hr=>by
 obtain ⟨⟨u,rfl,p,c,e,k⟩,g⟩:=hr;exact ⟨⟨p,c,by rw [e],hm,Gb.x k hZ⟩,g⟩
theorem G7.a2{n0:Nat}{w:Ae}(h:G7 n0 w):G7 w.heap.size w:=⟨h.hL,h.hT,h.hC,Cj h.hG h.hn,Cq _⟩
theorem G7.mk'{w:Ae}(h:Laid w)(hT:NW w)(hC:Xy w)(hb:10≤w.heap.size):G7 w.heap.size w:=⟨h,hT,hC,hb,Cq _⟩
inductive Ft where
   | i (k:IntKind) (x:Int)|s (l:List UInt8)|b (x:Bool)|n|p (k o:Nat)|e|r (k m:Nat)|f (g:Nat)
 deriving DecidableEq
inductive Ih where
   | c (a:Ft)|g (l:List Ft)
 deriving DecidableEq
inductive D0 where
   | v (a:Ih)|t (l:List Ih)|u
 deriving DecidableEq
structure F9 where
   e:Nat
   q:Option (Nat×Nat)
   l:List Ft
 deriving DecidableEq
structure E3 where
  b:Nat
  c:Nat
  h:Option Obj
section
variable (ρ:Nat→E3)
def v0:Ft→Aj
 | .i k x=>.int k x
 | .s l=>Cg l
 | .b x=>.bool x
 | .n=>.pointer none
 | .p k o=>.pointer (some ⟨(ρ k).b,o,none⟩)
 | .e=>.slice none 0 0
 | .r k m=>.slice (some ⟨(ρ k).b,0,none⟩) m (ρ k).c
 | .f g=>.func (.func g) #[] #[]
def HW:Ih→Aj
 | .c a=>v0 ρ a
 | .g l=>.agg (l.map (v0 ρ)).toArray
def Lv:D0→Aj
 | .v a=>HW ρ a
 | .t l=>.tuple (l.map (HW ρ)).toArray
 | .u=>undef
def AU:D0→Prop×Aj
 | .u=>(False,.bool false)
 | a=>(True,Lv ρ a)
end
def Ix:Ih→List Ft
 | .c a=>[a]
 | .g l=>l
theorem RV(ρ:Nat→E3)(a:Ih):(HW ρ a).cells=((Ix a).map (v0 ρ)).toArray:=by
 cases a with
 | c a=>cases a <;> rfl
 | g l=>rfl
theorem Aec(ρ:Nat→E3)(a:Ft):(v0 ρ a).oneCell'=true:=by cases a <;> rfl
theorem cT(ρ:Nat→E3)(l:List Ft):M6 (l.map (v0 ρ))=true:=by
 unfold M6;rw [A2];intro u hu;obtain ⟨a,_,rfl⟩:=List.mem_map.1 hu;exact Aec ρ a
def Dh{α:Type}:List (Nat×α)→Nat→Option α
 | [],_=>none
 | (k,v)::r,t=>bif AA k t then some v else Dh r t
def Ir{α:Type}(t:Nat)(v:α):List (Nat×α)→List (Nat×α)
 | []=>[(t,v)]
 | (k,x)::r=>bif AA k t then (t,v)::r else bif Ao k t then (t,v)::(k,x)::r else (k,x)::Ir t v r
def Tf{α:Type}(t:Nat)(l:List (Nat×α)):List (Nat×α):=l.filter fun x=>!AA x.1 t
theorem LM{a b:Nat}(h:a≠b):AA a b=false:=by
 cases hb:AA a b with
 | false=>rfl
 | true=>exact absurd (Dr hb) h
theorem NG{α:Type}(t:Nat)(v:α)(u:Nat):∀ (l:List (Nat×α)),Dh (Ir t v l) u=bif AA t u then some v else Dh l u
 | []=>rfl
 | (k,x)::r=>by
  unfold Ir;by_cases h:k=t;subst h;rw [Du,AL];unfold Dh;cases AA k u <;> rfl
  rw [LM h,AQ]
  cases Ao k t with
  | true=>rw [AL];rfl
  | false =>
   rw [AQ];unfold Dh;rw [NG t v u r];by_cases hk:k=u;subst hk;rw [Du,AL,LM (fun e=>h e.symm)];rfl;rw [LM hk,AQ,AQ]
theorem WD{α:Type}(t u:Nat):∀ (l:List (Nat×α)),Dh (Tf t l) u=bif AA t u then none else Dh l u
 | []=>by unfold Tf Dh;cases AA t u <;> rfl
 | (k,x)::r=>by
  have ih:=WD t u r;unfold Tf at ih ⊢;rw [List.filter_cons];by_cases h:k=t;subst h;rw [CN BR,ih];show _=bif AA k u then none else bif AA k u then some x else Dh r u;cases AA k u <;> rfl
  rw [CO (by simp [LM h])];show (bif AA k u then some x else Dh (List.filter (fun x=>!AA x.1 t) r) u)=bif AA t u then none else bif AA k u then some x else Dh r u;rw [ih];by_cases hk:k=u;subst hk;rw [Du,AL,LM (fun e=>h e.symm)];rfl;rw [LM hk,AQ];cases AA t u <;> rfl
abbrev D6:=List (Nat×D0)
def ES(ρ:Nat→E3)(σ:D6):List Ce:=σ.map fun x=>(x.1,AU ρ x.2)
theorem PA(ρ:Nat→E3)(t:Nat):∀ (σ:D6),Ex (ES ρ σ) t=(Dh σ t).map (AU ρ)
 | []=>rfl
 | (k,x)::r=>by
  have ih:=PA ρ t r;unfold ES at ih ⊢;rw [D4];unfold Ex Dh;rw [ih];cases AA k t <;> rfl
theorem QE{ρ ρ':Nat→E3}{σ:D6}{n d:Nat}{v:D0}{a:Act}{c:Prop}{u:Aj}(hσ:∀ t x,Dh σ t=some x→AU ρ' x=AU ρ x)(hv:AU ρ' v=(c,u))(h:Cl n ((d,c,u)::ES ρ σ) a):Cl n (ES ρ' (Ir d v σ)) a:=by
 refine h.sub fun t c' x hl=>?_;rw [PA,NG] at hl;unfold Ex
 cases hb:AA d t with
 | true=>rw [hb,AL] at hl;rw [AL];rw [Hp,hv] at hl;exact hl
 | false =>
  rw [hb,AQ] at hl;rw [AQ,PA]
  cases hq:Dh σ t with
  | none=>rw [hq] at hl;cases hl
  | some y=>rw [hq,Hp,hσ t y hq] at hl;rw [Hp];exact hl
theorem Ux{ρ:Nat→E3}{σ:D6}{n d:Nat}{v:D0}{a:Act}(hd:Ao d n=true)(h:Cl n (ES ρ σ) a):Cl n (ES ρ (Ir d v σ)) (a.put (some d) (Lv ρ v)):=by
 refine QE (fun _ _ _=>J) J (h.put hd (c:=(AU ρ v).1) (v:=(AU ρ v).2) (fun hc=>?_) (fun hc=>?_));cases v <;> first|rfl|exact hc.elim
 cases v <;> first|rfl|exact absurd Cc hc
def PL:Aj→Option Ft
 | .int k x=>some (.i k x)
 | .bool x=>some (.b x)
 | .string s=>some (.s s.data.toList)
 | .pointer none=>some .n
 | .slice none 0 0=>some .e
 | _=>none
def Lh{α β:Type}(f:α→Option β):List α→Option (List β)
 | []=>some []
 | x::r=>match f x,Lh f r with
  | some y,some l=>some (y::l)
  | _,_=>none
theorem bM{α β:Type}{f:α→Option β}{g:β→α}(hf:∀ x y,f x=some y→g y=x):∀ {l:List α} {r:List β},Lh f l=some r→r.map g=l
 | [],r,h=>by injection h with h;subst h;rfl
 | x::l,r,h=>by
  unfold Lh at h;split at h;rename_i y l' h1 h2;injection h with h;subst h;rw [D4,hf _ _ h1,bM hf h2];cases h
def OT:Aj→Option Ih
 | .agg cs=>(Lh PL cs.toList).map .g
 | v=>(PL v).map .c
theorem aK{ρ:Nat→E3}{v:Aj}{a:Ft}(h:PL v=some a):v0 ρ a=v:=by
 unfold PL at h;split at h <;> first|cases h;rfl|cases h
theorem WU{ρ:Nat→E3}{v:Aj}{a:Ih}(h:OT v=some a):HW ρ a=v:=by
 unfold OT at h;split at h;rename_i cs;obtain ⟨l,h1,rfl⟩:=Bu.1 h;have:=bM (g:=v0 ρ) (fun x y=>aK) h1;show Value.agg (l.map (v0 ρ)).toArray=_;rw [this];obtain ⟨l,h1,rfl⟩:=Bu.1 h;exact aK h1
def Fc(σ:D6):Bl→Option D0
 | .tmp t=>match Dh σ t with
  | some .u=>none
  | x=>x
 | .const v=>(OT v).map .v
 | .func g=>some (.v (.c (.f g)))
 | .global _=>none
theorem eM{ρ:Nat→E3}{σ:D6}{x:Bl}{v:D0}(h:Fc σ x=some v):FD (ES ρ σ) x=some (True,Lv ρ v):=by
 cases x with
 | tmp t =>
  have h:(match Dh σ t with|some .u=>none|x=>x)=some v:=h;show Ex (ES ρ σ) t=_;rw [PA];split at h;cases h;rename_i hn;rw [h]
  cases v with
  | u=>exact (hn h).elim
  | v a=>rfl
  | t l=>rfl
 | const c =>
  unfold Fc at h;obtain ⟨a,h1,rfl⟩:=Bu.1 h;show some (True,c)=some (True,HW ρ a);rw [WU h1]
 | global g=>cases h
 | func g=>injection h with h;subst h;rfl
section
variable {ρ:Nat→E3} {σ:D6} {n:Nat} {c:Prop} {x:Bl}
theorem Mq{v:D0}(h:Fc σ x=some v):BI n (ES ρ σ) c x (Lv ρ v):=FN (eM h)
end
def VY(op:BinOp)(k:IntKind)(a b:Int):Option Ft:=match op with
 | .add=>some (.i k (k.wrap (a+b)))
 | .sub=>some (.i k (k.wrap (a-b)))
 | .mul=>some (.i k (k.wrap (a*b)))
 | .eql=>some (.b (Ac (a=b)))
 | .neq=>some (.b (!Ac (a=b)))
 | .lss=>some (.b (Ac (a<b)))
 | .leq=>some (.b (Ac (a≤b)))
 | .gtr=>some (.b (Ac (b<a)))
 | .geq=>some (.b (Ac (b≤a)))
 | _=>none
def Vc(op:BinOp)(a b:List UInt8):Option Ft:=match op with
 | .eql=>some (.b (Ac (a=b)))
 | .neq=>some (.b (!Ac (a=b)))
 | _=>none
def a0(a:Option D0):Option Ft:=match a with
 | some (.v (.c x))=>some x
 | _=>none
theorem cQ{a:Option D0}{x:Ft}(h:a0 a=some x):a=some (.v (.c x)):=by
 unfold a0 at h;split at h;injection h with h;subst h;rfl;cases h
def iD(l:List UInt8):Option Ft→Option Ft→Option Ft
 | some (.i _ i),some (.i _ j)=>if 0≤i∧i≤j∧j≤l.length then some (.s ((l.drop i.toNat).take (j.toNat-i.toNat))) else none
 | _,_=>none
def Rt(σ:D6):List (Nat×Bl)→Option (List (Nat×Ih))
 | []=>some []
 | (i,x)::r=>match Fc σ x,Rt σ r with
  | some (.v a),some l=>some ((i,a)::l)
  | _,_=>none
def Ti(pl:Nat→Option (Nat×Nat)):List Ft→List (Nat×Ih)→Option (List Ft)
 | cs,[]=>some cs
 | cs,(i,v)::rest=>match pl i with
  | none=>none
  | some (off,z)=>if AA (Ix v).length z&&DQ (off+z) cs.length then Ti pl (cs.take off++Ix v++cs.drop (off+z)) rest else none
def QM(P:AJ)(σ:D6):Op→Option D0
 | .move x=>Fc σ x
 | .assign x=>Fc σ x
 | .nilCheck x=>match a0 (Fc σ x) with
  | some (.p k o)=>some (.v (.c (.p k o)))
  | _=>none
 | .pick c a b=>match a0 (Fc σ c) with
  | some (.b q)=>Fc σ (bif q then a else b)
  | _=>none
 | .unOp .not _ x=>match a0 (Fc σ x) with
  | some (.b q)=>some (.v (.c (.b (!q))))
  | _=>none
 | .binOp op _ x y _=>match a0 (Fc σ x),a0 (Fc σ y) with
  | some (.i k a),some (.i q b)=>if k=q then (VY op k a b).map fun z=>.v (.c z) else none
  | some (.s a),some (.s b)=>(Vc op a b).map fun z=>.v (.c z)
  | _,_=>none
 | .slice t x (some y) (some z) none=>match a0 (Fc σ x) with
  | some (.s l)=>bif Kd P t then (iD l (a0 (Fc σ y)) (a0 (Fc σ z))).map fun z=>.v (.c z) else none
  | _=>none
 | .slice t x (some y) none none=>match a0 (Fc σ x),a0 (Fc σ y) with
  | some (.s l),some (.i _ i)=>if Kd P t=true∧0≤i∧i≤l.length then some (.v (.c (.s (l.drop i.toNat)))) else none
  | _,_=>none
 | .slice t x none (some z) none=>match a0 (Fc σ x),a0 (Fc σ z) with
  | some (.s l),some (.i _ j)=>if Kd P t=true∧0≤j∧j≤l.length then some (.v (.c (.s (l.take j.toNat)))) else none
  | _,_=>none
 | .fieldAddr s x j=>match EA P s j,a0 (Fc σ x) with
  | some d,some (.p k o)=>some (.v (.c (.p k (o+d))))
  | _,_=>none
 | .field s x j=>match Sy P s j,Fc σ x with
  | some (off,none),some (.v (.g l))=>(l[off]?).map fun a=>.v (.c a)
  | some (off,some z),some (.v (.g l))=>some (.v (.g ((l.drop off).take z)))
  | _,_=>none
 | .indexAddr t x y=>match Gf P t,a0 (Fc σ x),a0 (Fc σ y) with
  | some (_,z,_),some (.r k m),some (.i _ j)=>if 0≤j∧j<m then some (.v (.c (.p k (0+j.toNat*z)))) else none
  | _,_,_=>none
 | .index t x y=>match a0 (Fc σ x),a0 (Fc σ y) with
  | some (.s l),some (.i _ i)=>if Kd P t=true∧0≤i∧i<l.length then some (.v (.c (.i .u8 (l.getD i.toNat 0).toNat))) else none
  | _,_=>none
 | .extract x i=>match Fc σ x with
  | some (.t l)=>(l[i]?).map .v
  | _=>none
 | .build t ps=>match Gh P t,Ll P t,Rt σ ps.toList with
  | some z,some pl,some vs=>match OT z with
   | some (.g zl)=>(Ti (fun i=>pl[i]?) zl vs).map fun l=>.v (.g l)
   | _=>none
  | _,_,_=>none
 | .call ⟨.builtin .len,⟨[x]⟩,⟨[t]⟩⟩=>match a0 (Fc σ x) with
  | some (.s l)=>bif Kd P t then some (.v (.c (.i .i64 l.length))) else none
  | some (.r _ m)=>match Gf P t with
   | some _=>some (.v (.c (.i .i64 m)))
   | none=>none
  | some .e=>match Gf P t with
   | some _=>some (.v (.c (.i .i64 0)))
   | none=>none
  | _=>none
 | .call ⟨.builtin .max,⟨[x,y]⟩,_⟩=>match a0 (Fc σ x),a0 (Fc σ y) with
  | some (.i k a),some (.i _ b)=>some (.v (.c (.i k (if b>a then b else a))))
  | _,_=>none
 | _=>none
section
variable {P:AJ} {ρ:Nat→E3} {σ:D6} {n:Nat} {c:Prop} {wb:Ae} {ty:AD}
theorem Gv{x:Bl}{a:Ft}(h:a0 (Fc σ x)=some a):BI n (ES ρ σ) c x (v0 ρ a):=Mq (cQ h)
theorem uP{x a b:Bl}{q:Bool}{v:Aj}(h:BI n (ES ρ σ) c x (.bool q))(h1:BI n (ES ρ σ) c (bif q then a else b) v):Db P n (ES ρ σ) c wb (.pick x a b) ty v:=.mk fun d pos after gd f hf hc w1 _=>by
 cases q with
 | false=>rw [AQ] at h1;simp [execOp,h f hf hc,asBool,h1 f hf hc]
 | true=>rw [AL] at h1;simp [execOp,h f hf hc,asBool,h1 f hf hc]
theorem XR:∀ {ps:List (Nat×Bl)} {vs:List (Nat×Ih)},Rt σ ps=some vs→Mg n (ES ρ σ) c ps.toArray (vs.map fun x=>(x.1,HW ρ x.2))
 | [],vs,h=>by injection h with h;subst h;exact IR
 | (i,x)::r,vs,h=>by
  unfold Rt at h;split at h;rename_i a l h1 h2;injection h with h;subst h;exact J6 (Mq h1) (XR h2);cases h
theorem gV(ρ:Nat→E3)(pl:Nat→Option (Nat×Nat)):∀ (vs:List (Nat×Ih)) (cs l:List Ft),Ti pl cs vs=some l→Ng pl (cs.map (v0 ρ)) (vs.map fun x=>(x.1,HW ρ x.2))=some (l.map (v0 ρ))
 | [],cs,l,h=>by injection h with h;subst h;rfl
 | (i,v)::rest,cs,l,h=>by
  unfold Ti at h;rw [D4];unfold Ng;dsimp only;split at h;cases h;rename_i aa z hp;simp only [hp];have hc:(HW ρ v).cells.toList=(Ix v).map (v0 ρ):=by rw [RV]
  rw [hc];split at h;rename_i hq;rw [CO (by simpa using hq)];have:=gV ρ pl rest _ l h;simpa using this;cases h
theorem Adh{op:BinOp}{t u:AD}{x y:Bl}{k:IntKind}{a b:Int}{z:Ft}(h:VY op k a b=some z)(hx:BI n (ES ρ σ) c x (.int k a))(hy:BI n (ES ρ σ) c y (.int k b)):Db P n (ES ρ σ) c wb (.binOp op t x y u) ty (v0 ρ z):=by
 unfold VY at h;split at h <;> cases h
 exact lL hx hy;exact kA hx hy;exact Aef hx hy;exact Gk hx hy;exact IA hx hy;exact Q5 hx hy;exact VB hx hy;exact QV hx hy;exact Q8 hx hy
theorem zB{op:BinOp}{t u:AD}{x y:Bl}{a b:List UInt8}{z:Ft}(h:Vc op a b=some z)(hx:BI n (ES ρ σ) c x (Cg a))(hy:BI n (ES ρ σ) c y (Cg b)):Db P n (ES ρ σ) c wb (.binOp op t x y u) ty (v0 ρ z):=by
 unfold Vc at h;split at h <;> cases h
 exact OB hx hy;exact R4 hx hy
theorem Z3{op:Op}{v:D0}(h:QM P σ op=some v):Db P n (ES ρ σ) c wb op ty (Lv ρ v):=by
 unfold QM at h;split at h;exact J1 (Mq h);exact Fj (Mq h);split at h <;> cases h
 rename_i h1;exact FZ (Gv h1);split at h;rename_i h1;exact uP (Gv h1) (Mq h);cases h;split at h <;> cases h
 rename_i h1;exact PD (Gv h1);split at h;rename_i h1 h2;split at h;rename_i hk;subst hk;obtain ⟨z,h3,rfl⟩:=Bu.1 h;exact Adh h3 (Gv h1) (Gv h2);cases h;rename_i h1 h2;obtain ⟨z,h3,rfl⟩:=Bu.1 h;exact zB h3 (Gv h1) (Gv h2);cases h;split at h;rename_i h1
 cases ht:Kd P _ with
 | false=>rw [ht] at h;cases h
 | true =>
  rw [ht,AL] at h;obtain ⟨z,h3,rfl⟩:=Bu.1 h;unfold iD at h3;split at h3;rename_i h4 h5;split at h3;rename_i hr;injection h3 with h3;subst h3;exact Qw ht (Gv h1) (Gv h4) (Gv h5) fun _=>hr;cases h3;cases h3
 cases h;split at h;rename_i h1 h2;split at h;rename_i hr;injection h with h;subst h;exact W8 hr.1 (Gv h1) (Gv h2) fun _=>hr.2;cases h;cases h;split at h;rename_i h1 h2;split at h;rename_i hr;injection h with h;subst h;exact Xx hr.1 (Gv h1) (Gv h2) fun _=>hr.2;cases h;cases h;split at h;rename_i h1 h2;injection h with h;subst h;exact AB h1 (Gv h2);cases h;split at h;rename_i h1 h2;obtain ⟨a,h3,rfl⟩:=Bu.1 h;exact Age h1 (Mq h2) (by simp [h3];rfl);rename_i h1 h2;injection h with h;subst h;exact kT (l:=_) h1 (Mq h2) BR;cases h;split at h;rename_i h1 h2 h3;split at h;rename_i hr;injection h with h;subst h;exact KQ h1 (Gv h2) (Gv h3) fun _=>hr;cases h;cases h;split at h;rename_i h1 h2;split at h;rename_i hr;injection h with h;subst h;exact OA hr.1 (Gv h1) (Gv h2) fun _=>hr.2;cases h;cases h;split at h;rename_i h1;obtain ⟨a,h3,rfl⟩:=Bu.1 h;exact Gr (Mq h1) (by simp [h3];rfl);cases h;split at h;rename_i h1 h2 h3;split at h;rename_i h4;obtain ⟨l,h5,rfl⟩:=Bu.1 h;have hz:=WU (ρ:=ρ) h4;exact Jj _ h1 (by rw [← hz];rfl) h2 (by simpa using XR h3) (gV ρ _ _ _ _ h5);cases h;cases h;split at h;rename_i h1
 cases ht:Kd P _ with
 | false=>rw [ht] at h;cases h
 | true=>rw [ht,AL] at h;injection h with h;subst h;exact Rv ht (Gv h1)
 rename_i h1;split at h <;> cases h
 rename_i h2;exact Lp h2 (Gv h1);rename_i h1;split at h <;> cases h
 rename_i h2;exact Lp h2 (Gv h1);cases h;split at h;rename_i h1 h2;injection h with h;subst h;exact Ys (Gv h1) (Gv h2);cases h;cases h
end
structure DE where
   nx:Nat
   m:List (Nat×F9)
 deriving DecidableEq
def Ho(p:Nat→Bool):Ft→Bool
 | .p k _=>p k
 | .r k _=>p k
 | _=>true
def NC(p:Nat→Bool):Ih→Bool
 | .c a=>Ho p a
 | .g l=>l.all (Ho p)
def IF(p:Nat→Bool):D0→Bool
 | .v a=>NC p a
 | .t l=>l.all (NC p)
 | .u=>true
section
variable {ρ ρ':Nat→E3} {p:Nat→Bool}
theorem Zd(h:∀ k,p k=true→ρ' k = ρ k){a:Ft}(ha:Ho p a=true):v0 ρ' a=v0 ρ a:=by
 cases a with
 | p k o=>show Value.pointer (some ⟨(ρ' k).b,o,none⟩)=_;rw [h k ha];rfl
 | r k m=>show Fs (some ⟨(ρ' k).b,0,none⟩) m (ρ' k).c=_;rw [h k ha];rfl
 | _=>rfl
theorem Ri(h:∀ k,p k=true→ρ' k = ρ k){l:List Ft}(ha:l.all (Ho p)=true):l.map (v0 ρ')=l.map (v0 ρ) :=
 Iz fun a hm=>Zd h (A2.1 ha a hm)
theorem aW(h:∀ k,p k=true→ρ' k = ρ k){a:Ih}(ha:NC p a=true):HW ρ' a=HW ρ a:=by
 cases a with
 | c a=>exact Zd h ha
 | g l=>show Value.agg _=Value.agg _;rw [Ri h ha]
theorem nQ(h:∀ k,p k=true→ρ' k = ρ k){a:D0}(ha:IF p a=true):AU ρ' a=AU ρ a:=by
 cases a with
 | v a=>show (True,HW ρ' a)=(True,HW ρ a);rw [aW h ha]
 | t l=>show (True,Value.tuple _)=(True,Value.tuple _);rw [Iz fun a hm=>aW h (A2.1 ha a hm)]
 | u=>rfl
theorem PF{q:Nat→Bool}(h:∀ k,p k=true→q k=true){a:Ft}(ha:Ho p a=true):Ho q a=true:=by
 cases a <;> first|rfl|exact h _ ha
theorem gY{q:Nat→Bool}(h:∀ k,p k=true→q k=true){a:Ih}(ha:NC p a=true):NC q a=true:=by
 cases a with
 | c a=>exact PF h ha
 | g l=>exact A2.2 fun a hm=>PF h (A2.1 ha a hm)
theorem cW{q:Nat→Bool}(h:∀ k,p k=true→q k=true){a:D0}(ha:IF p a=true):IF q a=true:=by
 cases a with
 | v a=>exact gY h ha
 | t l=>exact A2.2 fun a hm=>gY h (A2.1 ha a hm)
 | u=>rfl
end
def Kf(N0:Nat)(ρ:Nat→E3)(w:Ae)(k:Nat)(B:F9):Prop :=
 N0≤(ρ k).b∧match B.q with
 | none=>Ax w (ρ k).b B.e (B.l.map (v0 ρ))
 | some (z,m)=>w.ownsRow N0 B.e z (.slice (some ⟨(ρ k).b,0,none⟩) m (ρ k).c) m (B.l.map (v0 ρ))∧w.heap[(ρ k).b]? = (ρ k).h
theorem rZ{w w':Ae}{N0 e z b m c:Nat}{xs:List Aj}(h:w.ownsRow N0 e z (.slice (some ⟨b,0,none⟩) m c) m xs)(hh:w'.heap[b]? = w.heap[b]?):w'.ownsRow N0 e z (.slice (some ⟨b,0,none⟩) m c) m xs:=by
 refine ⟨h.1,?_⟩;rcases h.2 with ⟨h1,_⟩|⟨g,ab,aa,h1,h2,h3,h4⟩;cases h1;injection h1 with h1 _ hc;injection h1 with h1;injection h1 with h1 _ _;subst h1 hc;exact .inr ⟨b,c,aa,rfl,h2,hh.trans h3,h4⟩
theorem Afq{w:Ae}{N0 e z b m c:Nat}{xs:List Aj}(h:w.ownsRow N0 e z (.slice (some ⟨b,0,none⟩) m c) m xs):b<w.heap.size:=by
 rcases h.2 with ⟨h1,_⟩|⟨g,aa,ab,h1,h2,h3,h4⟩;cases h1;injection h1 with h1 _ _;injection h1 with h1;injection h1 with h1 _ _;subst h1;exact (Array.getElem?_eq_some_iff.1 h3).1
theorem uX{w:Ae}{N0 e z b m c:Nat}{xs:List Aj}(h:w.ownsRow N0 e z (.slice (some ⟨b,0,none⟩) m c) m xs):CQ w b 0 xs:=by
 rcases h.2 with ⟨h1,_⟩|⟨g,aa,ab,h1,h2,h3,_,_,h5,h6⟩;cases h1;injection h1 with h1 _ _;injection h1 with h1;injection h1 with h1 _ _;subst h1;intro j v hj;rw [← h6,IM] at hj;split at hj;simp [World.cell?,h3];simpa using hj;cases hj
section
variable {N0:Nat} {ρ ρ':Nat→E3} {w w':Ae} {k:Nat} {B:F9}
theorem Kf.heap(h:Kf N0 ρ w k B)(hh:w'.heap[(ρ k).b]? = w.heap[(ρ k).b]?):Kf N0 ρ w' k B:=by
 obtain ⟨e,q,l⟩:=B
 cases q with
 | none=>exact ⟨h.1,hh.trans h.2⟩
 | some q=>exact ⟨h.1,rZ h.2.1 hh,hh.trans h.2.2⟩
theorem Kf.lt(h:Kf N0 ρ w k B):(ρ k).b<w.heap.size:=by
 obtain ⟨e,q,l⟩:=B
 cases q with
 | none=>exact Ax.lt h.2
 | some q=>exact Afq h.2.1
theorem Kf.row(h:Kf N0 ρ w k B):CQ w (ρ k).b 0 (B.l.map (v0 ρ)):=by
 obtain ⟨e,q,l⟩:=B
 cases q with
 | none=>exact Ax.row h.2
 | some q=>exact uX h.2.1
theorem Kf.to(h:Kf N0 ρ w k B)(hk:ρ' k = ρ k)(hl:B.l.map (v0 ρ')=B.l.map (v0 ρ)):Kf N0 ρ' w k B:=by
 obtain ⟨e,q,l⟩:=B;unfold Kf at h ⊢;dsimp only at hl h ⊢;rw [hk,hl];exact h
theorem Kf.ac(h:Kf N0 ρ w k B)(h':Kf N0 ρ' w' k B)(hk:ρ' k = ρ k)(hl:B.l.map (v0 ρ')=B.l.map (v0 ρ)):w'.heap[(ρ k).b]? = w.heap[(ρ k).b]?:=by
 obtain ⟨e,q,l⟩:=B
 cases q with
 | none =>
  have h1:w.heap[(ρ k).b]? = _:=h.2;have h2:w'.heap[(ρ' k).b]? = _:=h'.2;dsimp only at h1 h2 hl;rw [hk,hl] at h2;rw [h1,h2]
 | some q =>
  have h1:=h.2.2;have h2:=h'.2.2;rw [hk] at h2;rw [h1,h2]
end
structure FM (w0:Ae) (ρ:Nat→E3) (s:DE) (w:Ae):Prop where
  g:G w0 w
  ok:∀ k B,Dh s.m k=some B→Kf w0.heap.size ρ w k B
  wf:∀ k B,Dh s.m k=some B→Ao k s.nx=true∧B.l.all (Ho fun j=>Ao j s.nx)=true
  ne:∀ k k' B B',Dh s.m k=some B→Dh s.m k'=some B'→k≠k'→(ρ k).b≠(ρ k').b
def GM(σ:D6)(n:Nat):Prop:=∀ t x,Dh σ t=some x→IF (fun j=>Ao j n) x=true
structure NL (id:Nat) (σ:D6) (m:List (Nat×F9)):Prop where
  s:∀ t x,Dh σ t=some x→IF (fun j=>!AA j id) x=true
  m:∀ k B,Dh m k=some B→AA k id=false∧B.l.all (Ho fun j=>!AA j id)=true
def QC(n id:Nat)(ρ ρ':Nat→E3):Prop:=∀ k,(Ao k n && !AA k id)=true→ρ' k = ρ k
theorem eZ{p q:Nat→Bool}{a:Ft}(h:Ho p a=true)(h':Ho q a=true):Ho (fun j=>p j&&q j) a=true:=by
 cases a <;> first|rfl|exact CC.2 ⟨h,h'⟩
theorem Vh{p q:Nat→Bool}{l:List Ft}(h:l.all (Ho p)=true)(h':l.all (Ho q)=true):l.all (Ho fun j=>p j&&q j)=true :=
 A2.2 fun a hm=>eZ (A2.1 h a hm) (A2.1 h' a hm)
theorem ZQ{p q:Nat→Bool}{a:Ih}(h:NC p a=true)(h':NC q a=true):NC (fun j=>p j&&q j) a=true:=by
 cases a with
 | c a=>exact eZ h h'
 | g l=>exact Vh h h'
theorem tV{p q:Nat→Bool}{a:D0}(h:IF p a=true)(h':IF q a=true):IF (fun j=>p j&&q j) a=true:=by
 cases a with
 | v a=>exact ZQ h h'
 | t l=>exact A2.2 fun a hm=>ZQ (A2.1 h a hm) (A2.1 h' a hm)
 | u=>rfl
section
variable {w0 w w':Ae} {ρ ρ':Nat→E3} {s:DE} {σ:D6} {id:Nat}
theorem GM.to(hw:GM σ s.nx)(hf:NL id σ s.m)(h:QC s.nx id ρ ρ'):∀ t x,Dh σ t=some x→AU ρ' x=AU ρ x:=fun t x hl=>nQ h (tV (hw t x hl) (hf.s t x hl))
theorem FM.lt(hi:FM w0 ρ s w){k:Nat}{B:F9}(hl:Dh s.m k=some B):(ρ k).b<w.heap.size:=(hi.ok k B hl).lt
theorem FM.at'(hi:FM w0 ρ s w)(hf:NL id σ s.m)(h:QC s.nx id ρ ρ'){k:Nat}{B:F9}(hl:Dh s.m k=some B):ρ' k = ρ k∧B.l.map (v0 ρ')=B.l.map (v0 ρ) :=
 ⟨h k (by rw [(hi.wf k B hl).1,(hf.m k B hl).1];rfl),Ri h (Vh (hi.wf k B hl).2 (hf.m k B hl).2)⟩
def J0(ρ:Nat→E3)(id:Nat)(x:E3)(k:Nat):E3:=bif AA k id then x else ρ k
theorem WJ(ρ:Nat→E3)(id:Nat)(x:E3):J0 ρ id x id=x:=by unfold J0;rw [Du];rfl
theorem TK(ρ:Nat→E3)(n id:Nat)(x:E3):QC n id ρ (J0 ρ id x):=fun k h=>by
 unfold J0
 cases hb:AA k id with
 | true=>rw [hb] at h;simp at h
 | false=>rfl
theorem FM.new(hi:FM w0 ρ s w)(hf:NL id σ s.m)(ae:Ao id s.nx=true){b e c:Nat}{h:Option Obj}{l:List Ft}(N:Ki w w' b e (l.map (v0 ρ)))(hl:l.all (Ho fun j=>Ao j s.nx && !AA j id)=true) :
 FM w0 (J0 ρ id ⟨b,c,h⟩) ⟨s.nx,Ir id ⟨e,none,l⟩ s.m⟩ w':=by
 have hA:=TK ρ s.nx id ⟨b,c,h⟩;have hu:=WJ ρ id ⟨b,c,h⟩;have ad:=Ri hA hl;have af:=N.y;have hg:=hi.g.size
 have nw:∀ k B,Dh (Ir id (⟨e,none,l⟩:F9) s.m) k=some B→k≠id→Dh s.m k=some B:=fun k B hk ab=>by
  rw [NG,LM (fun e=>ab e.symm)] at hk;exact hk
 have new:∀ B,Dh (Ir id (⟨e,none,l⟩:F9) s.m) id=some B→B=⟨e,none,l⟩:=fun B hk=>by
  rw [NG,Du] at hk;injection hk with hk;exact hk.symm
 refine ⟨hi.g.trans N.g,fun k B hk=>?_,fun k B hk=>?_,fun k k' B B' hk aa ab=>?_⟩;by_cases hq:k=id;subst hq;rw [new B hk];refine ⟨by rw [hu];show w0.heap.size≤b;omega,?_⟩;show Ax w' (J0 ρ k ⟨b,c,h⟩ k).b e (l.map (v0 (J0 ρ k ⟨b,c,h⟩)));rw [hu,ad];exact N.H;have hk:=nw k B hk hq;obtain ⟨h1,h2⟩:=hi.at' hf hA hk;exact ((hi.ok k B hk).heap (N.g.block (hi.lt hk))).to h1 h2;by_cases hq:k=id;subst hq;rw [new B hk];exact ⟨ae,A2.2 fun a hm=>PF (fun j hj=>(CC.1 hj).1) (A2.1 hl a hm)⟩;exact hi.wf k B (nw k B hk hq);by_cases hq:k=id;subst hq;have aa:=nw k' B' aa (fun e=>ab e.symm);rw [hu,(hi.at' hf hA aa).1];have:=hi.lt aa;show b≠_;omega;have ac:=nw k B hk hq;rw [(hi.at' hf hA ac).1];by_cases hq':k'=id;subst hq';rw [hu];have:=hi.lt ac;show _≠b;omega;have aa:=nw k' B' aa hq';rw [(hi.at' hf hA aa).1];exact hi.ne k k' B B' ac aa ab
theorem FM.set(hi:FM w0 ρ s w){k e:Nat}{l l':List Ft}(hk:Dh s.m k=some ⟨e,none,l⟩)(hg:w.grownBy w' (some (ρ k).b))(hB:Ax w' (ρ k).b e (l'.map (v0 ρ)))(hl:l'.all (Ho fun j=>Ao j s.nx)=true) :
 FM w0 ρ ⟨s.nx,Ir k ⟨e,none,l'⟩ s.m⟩ w':=by
 have h0:=(hi.ok k _ hk).1
 have nw:∀ j B,Dh (Ir k (⟨e,none,l'⟩:F9) s.m) j=some B→j≠k→Dh s.m j=some B:=fun j B hj ab=>by
  rw [NG,LM (fun e=>ab e.symm)] at hj;exact hj
 have new:∀ B,Dh (Ir k (⟨e,none,l'⟩:F9) s.m) k=some B→B=⟨e,none,l'⟩:=fun B hj=>by
  rw [NG,Du] at hj;injection hj with hj;exact hj.symm
 have ac:∀ j B,Dh (Ir k (⟨e,none,l'⟩:F9) s.m) j=some B→∃ B,Dh s.m j=some B:=fun j B hj=>by
  by_cases hq:j=k;subst hq;exact ⟨_,hk⟩;exact ⟨B,nw j B hj hq⟩
 refine ⟨BJ hi.g hg h0,fun j B hj=>?_,fun j B hj=>?_,fun j j' B B' hj aa ab=>?_⟩;by_cases hq:j=k;subst hq;rw [new B hj];exact ⟨h0,hB⟩;have hj:=nw j B hj hq;exact (hi.ok j B hj).heap (hg.block _ (hi.lt hj) fun q=>by injection q with q;exact hi.ne j k B _ hj hk hq q);by_cases hq:j=k;subst hq;rw [new B hj];exact ⟨(hi.wf j _ hk).1,hl⟩;exact hi.wf j B (nw j B hj hq);obtain ⟨B,hj⟩:=ac j B hj;obtain ⟨B',aa⟩:=ac j' B' aa;exact hi.ne j j' B B' hj aa ab
theorem FM.a8(hi:FM w0 ρ s w)(hf:NL id σ s.m)(ag:Ao id s.nx=true){m':List (Nat×F9)}(hm:∀ k B,Dh m' k=some B→Dh s.m k=some B){row:Option Nat}(hg:w.grownBy w' row)(hr:∀ k,row=some k→w0.heap.size≤k)
 (ac:∀ k B,Dh m' k=some B→some (ρ k).b≠row) {b e z m c:Nat} {l:List Ft} (hO:w'.ownsRow w0.heap.size e z (.slice (some ⟨b,0,none⟩) m c) m (l.map (v0 ρ))) (hb:row=some b∨b=w.heap.size) (hl:l.all (Ho fun j=>Ao j s.nx && !AA j id)=true) :
 FM w0 (J0 ρ id ⟨b,c,w'.heap[b]?⟩) ⟨s.nx,Ir id ⟨e,some (z,m),l⟩ m'⟩ w':=by
 have hA:=TK ρ s.nx id ⟨b,c,w'.heap[b]?⟩;have hu:=WJ ρ id ⟨b,c,w'.heap[b]?⟩;have af:=Ri hA hl;have ah:=hi.g.size
 have nw:∀ k B,Dh (Ir id (⟨e,some (z,m),l⟩:F9) m') k=some B→k≠id→Dh m' k=some B:=fun k B hk ab=>by
  rw [NG,LM (fun e=>ab e.symm)] at hk;exact hk
 have new:∀ B,Dh (Ir id (⟨e,some (z,m),l⟩:F9) m') id=some B→B=⟨e,some (z,m),l⟩:=fun B hk=>by
  rw [NG,Du] at hk;injection hk with hk;exact hk.symm
 have ae:∀ k B,Dh m' k=some B→(ρ k).b≠b:=fun k B hk q=>by
  rcases hb with hb|hb;exact ac k B hk (by rw [hb,q]);have:=hi.lt (hm k B hk);omega
 refine ⟨Below.grown hi.g hg hi.g.size hr,fun k B hk=>?_,fun k B hk=>?_,fun k k' B B' hk aa ab=>?_⟩;by_cases hq:k=id;subst hq;rw [new B hk];refine ⟨?_,?_⟩;rw [hu];rcases hb with hb|hb;exact hr _ hb;show w0.heap.size≤b;omega;show w'.ownsRow w0.heap.size e z (.slice (some ⟨(J0 ρ k ⟨b,c,w'.heap[b]?⟩ k).b,0,none⟩) m (J0 ρ k ⟨b,c,w'.heap[b]?⟩ k).c) m (l.map (v0 (J0 ρ k ⟨b,c,w'.heap[b]?⟩)))∧w'.heap[(J0 ρ k ⟨b,c,w'.heap[b]?⟩ k).b]? = (J0 ρ k ⟨b,c,w'.heap[b]?⟩ k).h;rw [hu,af];exact ⟨hO,rfl⟩;have hk:=nw k B hk hq;obtain ⟨h1,h2⟩:=hi.at' hf hA (hm k B hk);exact ((hi.ok k B (hm k B hk)).heap (hg.block _ (hi.lt (hm k B hk)) (ac k B hk))).to h1 h2;by_cases hq:k=id;subst hq;rw [new B hk];exact ⟨ag,A2.2 fun a hm=>PF (fun j hj=>(CC.1 hj).1) (A2.1 hl a hm)⟩;exact hi.wf k B (hm k B (nw k B hk hq));by_cases hq:k=id;subst hq;have aa:=nw k' B' aa (fun e=>ab e.symm);rw [hu,(hi.at' hf hA (hm _ _ aa)).1];exact fun q=>ae k' B' aa q.symm;have ad:=nw k B hk hq;rw [(hi.at' hf hA (hm _ _ ad)).1];by_cases hq':k'=id;subst hq';rw [hu];exact ae k B ad;have aa:=nw k' B' aa hq';rw [(hi.at' hf hA (hm _ _ aa)).1];exact hi.ne k k' B B' (hm _ _ ad) (hm _ _ aa) ab
end
def OZ(P:AJ)(σ:D6)(m:List (Nat×F9)):Op→Option (Ih×Nat)
 | .load t x=>match a0 (Fc σ x) with
  | some (.p k o)=>match Dh m k with
   | some B=>bif GK P t then (B.l[o]?).map fun a=>(.c a,k) else match I0 P t with
    | some z=>if o+z≤B.l.length then some (.g ((B.l.drop o).take z),k) else none
    | none=>none
   | none=>none
  | _=>none
 | _=>none
def Tp(z:Nat):Nat→List (Nat×Ih)→Option (List Ft)
 | _,[]=>some []
 | k,(i,v)::rest=>if AA i k&&AA (Ix v).length z then (Tp z (k+1) rest).map (Ix v ++ ·) else none
def dM(e z:Nat)(m:List (Nat×F9)):Ft→Option (Nat×List Ft×List (Nat×F9))
 | .e=>some (0,[],m)
 | .r k j=>match Dh m k with
  | some ⟨e',some (z',j'),l⟩=>if e'=e∧z'=z∧j'=j then some (j,l,Tf k m) else none
  | _=>none
 | _=>none
def IG(P:AJ)(cf:Nat→List D0→DE→Option (D0×DE))(σ:D6)(s:DE)(id:Nat):Op→Option (D0×DE)
 | .alloc e=>match Gh P e with
  | some z=>match OT z with
   | some a=>bif (Ix a).all (Ho fun j=>Ao j s.nx && !AA j id) then some (.v (.c (.p id 0)),⟨s.nx,Ir id ⟨e,none,Ix a⟩ s.m⟩) else none
   | none=>none
  | none=>none
 | .box e x=>match Fc σ x with
  | some (.v a)=>bif (Ix a).all (Ho fun j=>Ao j s.nx && !AA j id) then some (.v (.c (.p id 0)),⟨s.nx,Ir id ⟨e,none,Ix a⟩ s.m⟩) else none
  | _=>none
 | .store t x y=>match a0 (Fc σ x),Fc σ y,Im P t with
  | some (.p k o),some (.v a),some z=>match Dh s.m k with
   | some ⟨e,none,l⟩=>if (Ix a).length=z∧o+(Ix a).length≤l.length∧(l.take o++Ix a++l.drop (o+(Ix a).length)).all (Ho fun j=>Ao j s.nx)=true then
     some (.u,⟨s.nx,Ir k ⟨e,none,l.take o++Ix a++l.drop (o+(Ix a).length)⟩ s.m⟩) else none
   | _=>none
  | _,_,_=>none
 | .buildSlice t m ps=>match Gf P t,Rt σ ps.toList with
  | some (e,z,_),some vs=>match Gh P e,Tp z 0 vs with
   | some _,some l=>bif (DQ (m*z) 16777216 && !AA (m*z) 0&&AA vs.length m)&&(l.all (Ho fun j=>Ao j s.nx && !AA j id)&&(AA l.length (m*z)&&DQ m 1000000)) then some (.v (.c (.r id m)),⟨s.nx,Ir id ⟨e,some (z,m),l⟩ s.m⟩) else none
   | _,_=>none
  | _,_=>none
 | .convert a b x=>match Qd P a,Qd P b,a0 (Fc σ x) with
  | some _,some k,some (.i _ y)=>some (.v (.c (.i k (k.wrap y))),s)
  | _,_,_=>none
 | .call ⟨.value f,xs,_⟩=>match a0 (Fc σ f),Lh (Fc σ) xs.toList with
  | some (.f g),some vs=>bif CD P g then match cf g vs s with|some (.u,_)=>none|r=>r else none
  | _,_=>none
 | .call ⟨.builtin .append,⟨[x,y]⟩,⟨[t,t']⟩⟩=>match Gf P t,a0 (Fc σ x),a0 (Fc σ y) with
  | some (e,z,by_),some X,some (.r k2 q)=>match Gh P e,Dh s.m k2,dM e z s.m X with
   | some zv,some B2,some (m,l,mm)=>if (t'=t∧zv.cells.size=z∧0<z∧0<q)∧(B2.l.length=q*z∧m+q≤maxLen∧(m+q)*by_≤140737488355328)∧(l++B2.l).all (Ho fun j=>Ao j s.nx && !AA j id)=true then
     some (.v (.c (.r id (m+q))),⟨s.nx,Ir id ⟨e,some (z,m+q),l++B2.l⟩ mm⟩) else none
   | _,_,_=>none
  | _,_,_=>none
 | _=>none
def NA(n:Nat):Option Nat→D0→Bool
 | none,.u=>true
 | some t,.v _=>Ao t n
 | some t,.t _=>Ao t n
 | _,_=>false
def SE(d:Option Nat)(v:D0)(σ:D6):D6:=match d with
 | some t=>Ir t v σ
 | none=>σ
def PB(P:AJ)(w0:Ae)(cf:Nat→List D0→DE→Option (D0×DE)):Prop:=∀ g vs s v s',cf g vs s=some (v,s')→∀ ρ w,FM w0 ρ s w→(∀ x∈vs,IF (fun j=>Ao j s.nx) x=true)→
 Bz P g (vs.map (Lv ρ)).toArray w fun r w'=>∃ ρ',(∀ k,Ao k s.nx=true→ρ' k = ρ k)∧FM w0 ρ' s' w'∧r=Lv ρ' v
theorem Qp{P:AJ}{Z:List Bf→Act→Ae→Prop}{d:Option Nat}{op:Op}{ty:AD}{pos:String}{after:Array Edge}{g:Option (Nat×Bool)}{σ:List Ce}{n:Nat}{w:Ae}{K:Act→Ae→Prop}{a:Act}
 (h:BK P Z [⟨d,op,ty,pos,after,none⟩] [2] [] w n K 0 [⟨d,op,ty,pos,after,none⟩] σ w) (ha:Cl n σ a):JV P Z false ⟨d,op,ty,pos,after,g⟩ a w K:=by
 obtain ⟨o,ho,hb⟩:=h.h (fun j o h=>by simpa using h) a ha;obtain rfl:(⟨d,op,ty,pos,after,none⟩:Oper)=o:=EM ho;rw [CN (by intro h;rcases h with h|h <;> cases h),CO R9] at hb
 exact hb
section
variable {P:AJ} {w0 w:Ae} {ρ:Nat→E3} {s s':DE} {σ:D6} {id n:Nat} {c:Prop}
theorem dZ{b:Nat}{L:List Ft}(h:CQ w b 0 (L.map (v0 ρ)))(o z:Nat):CQ w b o (((L.drop o).take z).map (v0 ρ)):=fun j v hj=>by
 have:=h (o+j) v (by
  rw [Ht] at hj ⊢;rw [IM] at hj;split at hj;rw [List.getElem?_drop] at hj;exact hj;cases hj)
 rwa [Hv] at this
theorem gL{op:Op}{v:Ih}{k:Nat}{m:List (Nat×F9)}(h:OZ P σ m op=some (v,k)):∃ B,Dh m k=some B∧∀ {N0:Nat} {w:Ae} {ty:AD},Kf N0 ρ w k B→Db P n (ES ρ σ) c w op ty (HW ρ v):=by
 unfold OZ at h;split at h;split at h;rename_i h1;split at h;rename_i B h2
 cases ht:GK P _ with
 | true =>
  rw [ht,AL] at h;obtain ⟨a,h3,h4⟩:=Bu.1 h;injection h4 with h4 h5;subst h4 h5;refine ⟨B,h2,fun hB=>AZ ht (Gv h1) fun _=>?_⟩;have:=hB.row _ (v0 ρ a) (by rw [Ht,h3];rfl);rwa [Hv] at this
 | false =>
  rw [ht,AQ] at h;split at h;rename_i z h3;split at h;rename_i hz;injection h with h;injection h with h4 h5;subst h4 h5;exact ⟨B,h2,fun hB=>A8 h3 (Gv h1) (by rw [CR,List.length_take,List.length_drop];omega) fun _=>dZ hB.row _ _⟩;cases h;cases h
 cases h;cases h;cases h
theorem iW(ρ:Nat→E3)(z:Nat):∀ (vs:List (Nat×Ih)) (k:Nat) (l:List Ft),Tp z k vs=some l→Oq z k (vs.map fun x=>(x.1,HW ρ x.2))=some (l.map (v0 ρ))
 | [],k,l,h=>by injection h with h;subst h;rfl
 | (i,v)::rest,k,l,h=>by
  unfold Tp at h;have hc:(HW ρ v).cells.toList=(Ix v).map (v0 ρ):=by rw [RV]
  split at h;rename_i hq;obtain ⟨l',h1,rfl⟩:=Bu.1 h;rw [D4];unfold Oq;dsimp only;rw [hc,CO (by simpa using hq),iW ρ z rest _ l' h1];simp;cases h
theorem ZV:∀ {xs:List Bl} {vs:List D0},Lh (Fc σ) xs=some vs→Kq n (ES ρ σ) c xs (vs.map (Lv ρ))
 | [],vs,h=>by injection h with h;subst h;exact DC
 | x::r,vs,h=>by
  unfold Lh at h;split at h;rename_i y l h1 h2;injection h with h;subst h;exact CM (Mq h1) (ZV h2);cases h
theorem cE{p:Nat→Bool}(hw:∀ t x,Dh σ t=some x→IF p x=true):∀ {xs:List Bl} {vs:List D0},(∀ x v,Fc σ x=some v→IF p v=true)→Lh (Fc σ) xs=some vs→∀ x∈vs,IF p x=true
 | [],vs,_,h=>by injection h with h;subst h;exact fun x hx=>by cases hx
 | x::r,vs,ho,h=>by
  unfold Lh at h;split at h;rename_i y l h1 h2;injection h with h;subst h
  exact fun z hz=>by
   rcases Ez.1 hz with rfl|hz;exact ho _ _ h1;exact cE hw ho h2 z hz
  cases h
theorem fO{p:Nat→Bool}{v:Aj}{a:Ft}(h:PL v=some a):Ho p a=true:=by
 unfold PL at h;split at h <;> first|cases h;rfl|cases h
theorem dS{α β:Type}{f:α→Option β}{q:β→Bool}(hf:∀ x y,f x=some y→q y=true):∀ {l:List α} {r:List β},Lh f l=some r→r.all q=true
 | [],r,h=>by injection h with h;subst h;rfl
 | x::l,r,h=>by
  unfold Lh at h;split at h;rename_i y l' h1 h2;injection h with h;subst h;rw [List.all_cons,hf _ _ h1,dS hf h2];rfl;cases h
theorem kZ{p:Nat→Bool}{v:Aj}{a:Ih}(h:OT v=some a):NC p a=true:=by
 unfold OT at h;split at h;obtain ⟨l,h1,rfl⟩:=Bu.1 h;exact dS (fun x y=>fO) h1;obtain ⟨l,h1,rfl⟩:=Bu.1 h;exact fO h1
theorem uY{p:Nat→Bool}(hw:∀ t x,Dh σ t=some x→IF p x=true){x:Bl}{v:D0}(h:Fc σ x=some v):IF p v=true:=by
 cases x with
 | tmp t =>
  have h:(match Dh σ t with|some .u=>none|x=>x)=some v:=h;split at h;cases h;exact hw t v h
 | const u =>
  obtain ⟨a,h1,rfl⟩:=Bu.1 h;exact kZ h1
 | global g=>cases h
 | func g=>injection h with h;subst h;rfl
theorem qQ{f:Bl}{g:Nat}{xs:Array Bl}{ats:Array AD}{vs:List Aj}{τ:List Ce}{ty:AD}(hq:CD P g=true)(h:BI n τ c f (.func (.func g) #[] #[]))(hx:Kq n τ c xs.toList vs):OU P n τ c w (.call ⟨.value f,xs,ats⟩) ty g vs.toArray:=by
 have:=BF (w:=w) (ty:=ty) (ats:=ats) hq h hx (args:=vs.toArray) BR;simpa using this
def Pv(P:AJ)(w0:Ae)(ρ:Nat→E3)(s:DE)(id n:Nat)(σ':D6)(s':DE)(a':Act)(w':Ae):Prop:=∃ ρ',QC s.nx id ρ ρ'∧FM w0 ρ' s' w'∧Cl n (ES ρ' σ') a'
theorem Ga{d n:Nat}(hd:Ao d n=true):(!AA (Bw [2] 0) 0 && !AA (Bw [2] 0) 3&&Ao d n)=true:=by rw [hd];rfl
theorem YN{cf:Nat→List D0→DE→Option (D0×DE)}{Z:List Bf→Act→Ae→Prop}{op:Op}{v:D0}{d:Option Nat}{ty:AD}{pos:String}{after:Array Edge}{g:Option (Nat×Bool)}{a:Act}(ay:PB P w0 cf)(h:IG P cf σ s id op=some (v,s'))(hd:NA n d v=true)(hi:FM w0 ρ s w)(hw:GM σ s.nx)(hf:NL id σ s.m)
 (ae:Ao id s.nx=true) (ha:Cl n (ES ρ σ) a):JV P Z false ⟨d,op,ty,pos,after,g⟩ a w (Pv P w0 ρ s id n (SE d v σ) s'):=by
 have tE:=fun (x:E3)=>hw.to hf (TK ρ s.nx id x);have tA:=fun (x:E3)=>TK ρ s.nx id x;have tU:=fun (x:E3)=>WJ ρ id x;unfold IG at h;split at h;split at h;split at h;rename_i z h1 y AU h2
 cases hq:(Ix AU).all (Ho fun j=>Ao j s.nx && !AA j id) with
 | false=>rw [hq] at h;cases h
 | true =>
  rw [hq,AL] at h;injection h with h;injection h with h3 h4;subst h3 h4
  cases d with
  | none=>cases hd
  | some t =>
   refine Qp (En (l:=(Ix AU).map (v0 ρ)) (Ga hd) h1 (by rw [← WU (ρ:=ρ) h2];exact RV ρ AU) fun b w1 N=>Ai fun a' aa=>?_) ha;exact ⟨J0 ρ id ⟨b,0,none⟩,tA _,hi.new hf ae N hq,QE (tE _) (by show (True,Value.pointer _)=_;rw [tU]) aa⟩
 cases h;cases h;split at h;rename_i AU h1
 cases hq:(Ix AU).all (Ho fun j=>Ao j s.nx && !AA j id) with
 | false=>rw [hq] at h;cases h
 | true =>
  rw [hq,AL] at h;injection h with h;injection h with h3 h4;subst h3 h4
  cases d with
  | none=>cases hd
  | some t =>
   refine Qp (Jr (l:=(Ix AU).map (v0 ρ)) (Ga hd) (Mq h1) (RV ρ AU) fun b w1 N=>Ai fun a' aa=>?_) ha;exact ⟨J0 ρ id ⟨b,0,none⟩,tA _,hi.new hf ae N hq,QE (tE _) (by show (True,Value.pointer _)=_;rw [tU]) aa⟩
 cases h;split at h;rename_i k o a1 z h1 h2 h3;split at h;rename_i e l h4;split at h;rename_i hc;injection h with h;injection h with h5 h6;subst h5 h6
 cases d with
 | some t=>cases hd
 | none =>
  have hB:=(hi.ok k _ h4).2;refine Qp (Df (b:=(ρ k).b) (o:=o) (e:=e) (l:=l.map (v0 ρ)) (vs:=(Ix a1).map (v0 ρ)) J h3 (Gv h1) (Mq h2) (RV ρ a1) (by rw [CR];exact hc.1) hB (by rw [CR,CR];exact Ip hc.2.1) (cT ρ _) fun w1 hg _ ag=>Ai fun a' aa=>?_) ha;refine ⟨ρ,fun _ _=>rfl,hi.set h4 hg ?_ hc.2.2,aa⟩;rw [CR] at ag;rw [Gq,Gq,List.map_take,List.map_drop];exact ag
 cases h;cases h;cases h;split at h;rename_i e z aq vs h1 h2;split at h;rename_i zv l h3 h4
 cases hq:(DQ (_*z) 16777216 && !AA (_*z) 0&&AA vs.length _)&&(l.all (Ho fun j=>Ao j s.nx && !AA j id)&&(AA l.length (_*z)&&DQ _ 1000000)) with
 | false=>rw [hq] at h;cases h
 | true =>
  rw [hq,AL] at h;injection h with h;injection h with h5 h6;subst h5 h6;obtain ⟨hm,hl⟩:=CC.1 hq;obtain ⟨hl,ad⟩:=CC.1 hl;obtain ⟨ad,au⟩:=CC.1 ad
  cases d with
  | none=>cases hd
  | some t =>
   refine Qp (Fe (l.map (v0 ρ)) (Ga hd) h1 h3 (by simpa using XR h2) (by rw [CR];exact hm) (iW ρ _ _ _ _ h4) fun b w1 N=>Ai fun a' aa=>?_) ha;have hO:w1.ownsRow w0.heap.size e z (.slice (some ⟨b,0,none⟩) _ _) _ (l.map (v0 ρ)):=Ou N.H (by rw [N.y];exact hi.g.size) (by rw [CR];exact Dr ad) (E0 au);exact ⟨J0 ρ id ⟨b,_,w1.heap[b]?⟩,tA _,hi.a8 hf ae (fun _ _ h=>h) (N.g.O none) (fun k h=>by cases h) (fun k B hk h=>by cases h) hO (.inr N.y) hl,QE (tE _) (by show (True,Fs _ _ _)=_;rw [tU]) aa⟩
 cases h;cases h;split at h;rename_i k1 k2 k3 y h1 h2 h3;injection h with h;injection h with h5 h6;subst h5 h6
 cases d with
 | none=>cases hd
 | some t =>
  exact .inl ⟨_,w,zS h1 h2 (Gv h3) _ _ _ _ a ha Cc w (G.refl w),(fun h=>by cases h),ρ,fun _ _=>rfl,hi,Ux hd ha⟩
 cases h;split at h;rename_i g1 vs h1 h2
 cases hq:CD P g1 with
 | false=>rw [hq] at h;cases h
 | true =>
  rw [hq,AL] at h
  obtain ⟨h,ao⟩:cf g1 vs s=some (v,s')∧v≠.u:=by
   split at h;cases h;rename_i hn;exact ⟨h,fun e=>by subst e;exact hn _ h⟩
  have hC:=ay _ _ _ _ _ h ρ w hi (cE hw (fun x v hv=>uY hw hv) h2)
  cases d with
  | none=>cases v <;> first|exact absurd rfl ao|cases hd
  | some t =>
   refine Qp (EB (Ga (by cases v <;> first|exact hd|cases hd)) ?_ hC fun r w' hr=>⟨(fun h=>by cases h),Ai fun a' aa=>?_⟩) ha
   exact qQ hq (Gv h1) (ZV h2);obtain ⟨ρ',hA,hI,rfl⟩:=hr;have af:QC s.nx id ρ ρ':=fun k hk=>hA k (CC.1 hk).1;exact ⟨ρ',af,hI,QE (hw.to hf af) (by cases v <;> first|rfl|cases hd) aa⟩
 cases h;split at h;rename_i e z aq X k2 q h1 h2 h3;split at h;rename_i zv B2 m l mm h4 h5 h6;split at h;rename_i hc;injection h with h;injection h with h7 h8;subst h7 h8;obtain ⟨⟨rfl,al,ak,a2⟩,⟨aw,av,an⟩,am⟩:=hc
 cases d with
 | none=>cases hd
 | some t =>
  have aj:=(hi.ok k2 B2 h5).row
  have ah:w.ownsRow w0.heap.size e z (v0 ρ X) m (l.map (v0 ρ))∧(∀ k B,Dh mm k=some B→Dh s.m k=some B)∧(∀ k,(v0 ρ X).ownBlock=some k→w0.heap.size≤k)∧∀ k B,Dh mm k=some B→some (ρ k).b≠(v0 ρ X).ownBlock:=by
   unfold dM at h6;split at h6;injection h6 with h6;injection h6 with h7 h6;injection h6 with h8 h6;subst h7 h8 h6;exact ⟨J5 _ _ _ _,fun _ _ h=>h,(fun k hk=>by cases hk),fun k B _ hk=>by cases hk⟩;rename_i k j;split at h6;rename_i e' z' j' l' h7;split at h6;rename_i he;obtain ⟨rfl,rfl,rfl⟩:=he;injection h6 with h6;injection h6 with h8 h6;injection h6 with h9 h6;subst h8 h9 h6;have hk:=hi.ok k _ h7;refine ⟨hk.2.1,fun i B hB=>?_,fun i ab=>?_,fun i B hB ab=>?_⟩;rw [WD] at hB
   cases hb:AA k i with
   | true=>rw [hb] at hB;cases hB
   | false=>rw [hb] at hB;exact hB
   injection ab with ab;subst ab;exact hk.1;rw [WD] at hB
   cases hb:AA k i with
   | true=>rw [hb] at hB;cases hB
   | false =>
    rw [hb] at hB;injection ab with ab;exact hi.ne i k B _ hB h7 (fun e=>by subst e;rw [Du] at hb;cases hb) ab
   cases h6;cases h6;cases h6
  obtain ⟨ai,ax,ap,ar⟩:=ah;refine Qp (Ja (news:=B2.l.map (v0 ρ)) (base:=w0.heap.size) (by rw [show Ao t n=true from hd];rfl) h1 h4 al ak (Gv h2) ai (Gv h3) (by rw [CR];exact aw) aj (cT ρ _) av an hi.g.size fun a1 c1 w1 hO hg ac=>Ai fun a' aa=>?_) ha;rw [← Gq] at hO
  obtain ⟨b,rfl⟩:∃ b,a1=some ⟨b,0,none⟩:=by
   rcases hO.2 with ⟨q1,q2⟩|⟨g,az,a3,q1,_⟩;omega;injection q1 with q1;exact ⟨g,q1⟩
  refine ⟨J0 ρ id ⟨b,c1,w1.heap[b]?⟩,tA _,hi.a8 hf ae ax hg ap ar hO ?_ am,QE (tE _) (by show (True,Fs _ _ _)=_;rw [tU]) aa⟩;rcases ac with ac|ac;exact .inl ac.symm;injection ac with ac;exact .inr ac
 cases h;cases h;cases h;cases h
end
def PY(ops:List Oper)(σ:D6):Option (Nat×Bool)→Option Bool
 | none=>some true
 | some (g,want)=>match (ops.toArray[g]?).bind (·.dst) with
  | some t=>match Dh σ t with
   | some (.v (.c (.b x)))=>some (Ac (x=want))
   | some .u=>some false
   | _=>none
  | none=>none
def IP(n:Nat)(d:Option Nat)(v:D0)(σ:D6)(s s':DE):Option (D6×DE):=bif NA n d v&&(IF (fun j=>Ao j s'.nx) v&&DQ s.nx s'.nx) then some (SE d v σ,s') else none
def LH(n:Nat)(d:Option Nat)(σ:D6)(s:DE):Option (D6×DE):=match d with
 | some t=>bif Ao t n then some (Ir t .u σ,s) else none
 | none=>some (σ,s)
def Sx(P:AJ)(cf:Nat→List D0→DE→Option (D0×DE))(n:Nat)(ops:List Oper)(σ:D6)(s:DE)(id:Nat)(o:Oper):Option (D6×DE):=match PY ops σ o.guard with
 | some false=>LH n o.dst σ s
 | some true=>match QM P σ o.op with
  | some v=>IP n o.dst v σ s s
  | none=>match OZ P σ s.m o.op with
   | some (v,_)=>IP n o.dst (.v v) σ s s
   | none=>match IG P cf σ s id o.op with
    | some (v,s')=>IP n o.dst v σ s s'
    | none=>none
 | none=>none
def PW(P:AJ)(cf:Nat→List D0→DE→Option (D0×DE))(n:Nat)(ops:List Oper):List Oper→D6→DE→Option (D6×DE)
 | [],σ,s=>some (σ,s)
 | o::r,σ,s=>match Sx P cf n ops σ ⟨s.nx+1,s.m⟩ s.nx o with
  | some (σ',s')=>PW P cf n ops r σ' s'
  | none=>none
section
variable {P:AJ} {cf:Nat→List D0→DE→Option (D0×DE)} {w0 w:Ae} {ρ:Nat→E3} {s s':DE} {σ σ':D6} {id n:Nat} {ops:List Oper} {o:Oper} {a:Act}
theorem PR{b:Bool}(h:PY ops σ o.guard=some b)(ha:Cl n (ES ρ σ) a):CY o (yielded ops.toArray a.tmps)=b:=by
 obtain ⟨d,op,ty,pos,after,g⟩:=o
 cases g with
 | none=>cases h;rfl
 | some g =>
  obtain ⟨g,want⟩:=g;unfold PY at h;dsimp only at h;split at h;rename_i t h1;split at h;rename_i x h2;injection h with h;subst h;have hw:=OL (op:=op) (ty:=ty) (pos:=pos) (after:=after) (want:=want) (d:=d) (b:=x) (c0:=True) h1 (by rw [PA,h2];rfl) ha;by_cases hx:x=want;rw [hw.2 ⟨Cc,hx⟩,BU hx];rw [Aq hx]
  cases hq:CY _ _ with
  | false=>rfl
  | true=>exact absurd (hw.1 hq).2 hx
  rename_i h2;injection h with h;subst h;have hw:=OL (op:=op) (ty:=ty) (pos:=pos) (after:=after) (want:=want) (d:=d) (b:=false) (c0:=False) h1 (by rw [PA,h2];rfl) ha
  cases hq:CY _ _ with
  | false=>rfl
  | true=>exact (hw.1 hq).1.elim
  cases h;cases h
theorem SW{d:Option Nat}{v:D0}(hd:NA n d v=true)(ha:Cl n (ES ρ σ) a):Cl n (ES ρ (SE d v σ)) (a.put d (Lv ρ v)):=by
 cases d with
 | none=>exact ha
 | some t=>exact Ux (by cases v <;> first|exact hd|cases hd) ha
theorem NS{d:Option Nat}{v:D0}(h:IP n d v σ s s'=some (σ',s')):NA n d v=true∧IF (fun j=>Ao j s'.nx) v=true∧s.nx≤s'.nx∧σ'=SE d v σ:=by
 unfold IP at h
 cases hq:NA n d v&&(IF (fun j=>Ao j s'.nx) v&&DQ s.nx s'.nx) with
 | false=>rw [hq] at h;cases h
 | true =>
  rw [hq,AL] at h;injection h with h;injection h with h1 h2;simp only [Bool.and_eq_true] at hq;exact ⟨hq.1,hq.2.1,E0 hq.2.2,h1.symm⟩
theorem Py{d:Option Nat}{v:D0}{s1:DE}(h:IP n d v σ s s1=some (σ',s')):s1=s':=by
 unfold IP at h
 cases hq:NA n d v&&(IF (fun j=>Ao j s1.nx) v&&DQ s.nx s1.nx) with
 | false=>rw [hq] at h;cases h
 | true=>rw [hq,AL] at h;injection h with h;injection h with _ h
theorem NM{j a b:Nat}(h:Ao j a=true)(aa:a≤b):Ao j b=true:=Ip (Cj (E0 h) aa)
theorem GM.mono{a b:Nat}(h:GM σ a)(aa:a≤b):GM σ b:=fun t x hl=>cW (fun j hj=>NM hj aa) (h t x hl)
theorem Pd{d:Option Nat}{v:D0}{m:Nat}(h:GM σ m)(hv:IF (fun j=>Ao j m) v=true):GM (SE d v σ) m:=by
 cases d with
 | none=>exact h
 | some t =>
  intro u x hl;have hl:Dh (Ir t v σ) u=some x:=hl;rw [NG] at hl
  cases hb:AA t u with
  | true=>rw [hb] at hl;injection hl with hl;subst hl;exact hv
  | false=>rw [hb] at hl;exact h u x hl
theorem FM.bi(hi:FM w0 ρ s w){m:Nat}(hm:s.nx≤m):FM w0 ρ ⟨m,s.m⟩ w:=⟨hi.g,hi.ok,fun k B hk=>⟨NM (hi.wf k B hk).1 hm,A2.2 fun a ha=>PF (fun j hj=>NM hj hm) (A2.1 (hi.wf k B hk).2 a ha)⟩,hi.ne⟩
theorem Uh{j m:Nat}(h:Ao j m=true):(!AA j m)=true:=by
 have:=E0 h;rw [LM O];rfl
theorem oC(hi:FM w0 ρ s w)(hw:GM σ s.nx):NL s.nx σ s.m:=⟨fun t x hl=>cW (fun j hj=>Uh hj) (hw t x hl),fun k B hk=>⟨by have:=Uh (hi.wf k B hk).1;simpa using this,A2.2 fun a ha=>PF (fun j hj=>Uh hj) (A2.1 (hi.wf k B hk).2 a ha)⟩⟩
theorem X4{d:Option Nat}(h:LH n d σ s=some (σ',s'))(ha:Cl n (ES ρ σ) a)(hw:GM σ s.nx):s'=s∧GM σ' s.nx∧Cl n (ES ρ σ') (a.put d undef):=by
 cases d with
 | none=>injection h with h;injection h with h1 h2;subst h1 h2;exact ⟨rfl,hw,ha⟩
 | some t =>
  unfold LH at h;dsimp only at h
  cases hq:Ao t n with
  | false=>rw [hq] at h;cases h
  | true =>
   rw [hq,AL] at h;injection h with h;injection h with h1 h2;subst h1 h2;exact ⟨rfl,Pd (d:=some t) (v:=.u) hw rfl,Ux (v:=.u) hq ha⟩
theorem fS(h:Sx P cf n ops σ s id o=some (σ',s'))(hw:GM σ s.nx):s.nx≤s'.nx∧GM σ' s'.nx:=by
 unfold Sx at h
 have aa:∀ {v:D0} {s1:DE},IP n o.dst v σ s s1=some (σ',s')→s.nx≤s'.nx∧GM σ' s'.nx:=fun hf=>by
  obtain rfl:=Py hf;obtain ⟨h1,h2,h3,rfl⟩:=NS hf;exact ⟨h3,Pd (hw.mono h3) h2⟩
 split at h
 cases hd:o.dst with
 | none=>rw [hd] at h;injection h with h;injection h with h1 h2;subst h1 h2;exact ⟨Cq _,hw⟩
 | some t =>
  rw [hd] at h;unfold LH at h;dsimp only at h
  cases hq:Ao t n with
  | false=>rw [hq] at h;cases h
  | true=>rw [hq,AL] at h;injection h with h;injection h with h1 h2;subst h1 h2;exact ⟨Cq _,Pd (d:=some t) (v:=.u) hw rfl⟩
 split at h;exact aa h;split at h;exact aa h;split at h;exact aa h;cases h;cases h
theorem xD{Z:List Bf→Act→Ae→Prop}(ab:PB P w0 cf)(h:Sx P cf n ops σ s id o=some (σ',s'))(hi:FM w0 ρ s w)(hw:GM σ s.nx)(hf:NL id σ s.m)(aa:Ao id s.nx=true)(ha:Cl n (ES ρ σ) a) :
 if CY o (yielded ops.toArray a.tmps)=true then JV P Z false o a w (Pv P w0 ρ s id n σ' s') else Pv P w0 ρ s id n σ' s' (a.put o.dst undef) w:=by
 unfold Sx at h;split at h;rename_i h0;rw [CN (by rw [PR h0 ha];simp)];obtain ⟨rfl,_,h2⟩:=X4 h ha hw;exact ⟨ρ,fun _ _=>rfl,hi,h2⟩;rename_i h0;rw [CO (PR h0 ha)];obtain ⟨d,op,ty,pos,after,g⟩:=o;split at h;rename_i v hv;obtain rfl:=Py h;obtain ⟨h1,h2,h3,rfl⟩:=NS h;exact .inl ⟨_,w,Z3 hv _ _ _ _ a ha Cc w (G.refl w),(fun h=>by cases h),ρ,fun _ _=>rfl,hi,SW h1 ha⟩;split at h;rename_i v k hv;obtain rfl:=Py h;obtain ⟨h1,h2,h3,rfl⟩:=NS h;obtain ⟨B,hB,hr⟩:=gL (ρ:=ρ) (n:=n) (c:=True) hv;exact .inl ⟨_,w,hr (hi.ok k B hB) _ _ _ _ a ha Cc w (G.refl w),(fun h=>by cases h),ρ,fun _ _=>rfl,hi,SW h1 ha⟩;split at h;rename_i v s1 hv;obtain rfl:=Py h;obtain ⟨h1,h2,h3,rfl⟩:=NS h;exact YN ab hv h1 hi hw hf aa ha;cases h;cases h
theorem cU:∀ (l:List Oper) (σ:D6) (s:DE),PW P cf n ops l σ s=some (σ',s')→GM σ s.nx→s.nx≤s'.nx∧GM σ' s'.nx
 | [],σ,s,h,hw=>by injection h with h;injection h with h1 h2;subst h1 h2;exact ⟨Cq _,hw⟩
 | o::r,σ,s,h,hw=>by
  unfold PW at h;split at h;rename_i σ1 s1 h1;obtain ⟨h2,h3⟩:=fS h1 (hw.mono (EY _));obtain ⟨h4,h5⟩:=cU r σ1 s1 h h3;exact ⟨Cj (EY _) (Cj h2 h4),h5⟩;cases h
theorem aR{Z:List Bf→Act→Ae→Prop}{W0:Ae}(af:PB P w0 cf):∀ (l:List Oper) (k:Nat) (σ:D6) (s:DE) (ρ:Nat→E3) (a:Act) (w:Ae) (K:Act→Ae→Prop),(∀ j,l[j]? = ops[k+j]?)→PW P cf n ops l σ s=some (σ',s')→FM w0 ρ s w→GM σ s.nx→Cl n (ES ρ σ) a→
  (∀ ρ' a' w',(∀ j,Ao j s.nx=true→ρ' j = ρ j)→FM w0 ρ' s' w'→Cl n (ES ρ' σ') a'→K a' w')→FL P Z ops.toArray (fun _=>2) (fun _=>true) W0 K (List.range' k l.length) a w
 | [],k,σ,s,ρ,a,w,K,hl,h,hi,hw,ha,hK=>by
  injection h with h;injection h with h1 h2;subst h1 h2;exact hK ρ a w (fun _ _=>rfl) hi ha
 | o::r,k,σ,s,ρ,a,w,K,hl,h,hi,hw,ha,hK=>by
  unfold PW at h;split at h;rename_i σ1 s1 h1;have ad:=hw.mono (EY s.nx);obtain ⟨h2,h3⟩:=fS h1 ad;have aj:Ao s.nx (s.nx+1)=true:=Ip (Cq _);have ab:=xD (Z:=Z) af h1 (hi.bi (EY s.nx)) ad (oC hi hw) aj ha
  have aa:∀ a' w',Pv P w0 ρ ⟨s.nx+1,s.m⟩ s.nx n σ1 s1 a' w'→FL P Z ops.toArray (fun _=>2) (fun _=>true) W0 K (List.range' (k+1) r.length) a' w':=by
   rintro a' w' ⟨ρ1,hA,hI,hk⟩;refine aR af r (k+1) σ1 s1 ρ1 a' w' K (fun j=>by have:=hl (j+1);simpa [Nat.add_assoc,Nat.add_comm 1 j] using this) h hI h3 hk fun ρ' a2 w2 ai ah ag=>hK ρ' a2 w2 (fun j hj=>?_) ah ag;have ae:Ao j (s.nx+1)=true:=NM hj (EY _);rw [ai j (NM ae h2)];exact hA j (by rw [ae,Uh hj];rfl)
  rw [Gm,List.range'_succ];refine ⟨o,by have:=hl 0;simpa using this.symm,?_⟩;rw [CN (by intro h;rcases h with h|h <;> cases h)]
  split;rename_i ac;rw [CO ac] at ab;exact ab.turn rfl (fun _ _ h=>h) fun v w' _ hn=>aa _ _ hn;rename_i ac;rw [CN ac] at ab;exact aa _ _ ab;cases h
end
def Rx(o:Oper):Nat:=match o.op with
 | .load ..=>0
 | .move .. | .assign .. | .pick .. | .nilCheck .. | .binOp .. | .unOp .. | .slice .. | .fieldAddr .. | .field .. | .indexAddr .. | .index .. | .extract .. | .build ..=>3
 | .store ..=>2
 | .call c=>match c.callee with
  | .builtin .len=>3
  | .builtin .append=>2
  | _=>1
 | _=>1
def P4:List Oper→List Nat→List Nat
 | [],ms=>ms
 | o::r,ms=>P4 r (ms++[Nu ms o.after.toList])
def Xt(id:Nat)(σ:D6)(m:List (Nat×F9)):Bool:=σ.all (fun x=>IF (fun j=>!AA j id) x.2)&&m.all fun x=>!AA x.1 id&&x.2.l.all (Ho fun j=>!AA j id)
abbrev Pb:=Option (D6×DE×List Nat×List (List (Nat×F9)×List (Nat×F9)))
def SX(f:Nat→Pb):List Nat→Pb
 | []=>none
 | [j]=>f j
 | j::r=>match f j,SX f r with
  | some (σ1,s1,k1,n1),some (σ2,s2,k2,n2)=>if σ1 = σ2∧s1=s2 then some (σ1,s1,k1++k2,n1++n2) else none
  | _,_=>none
def TP(k:List Nat)(n:List (List (Nat×F9)×List (Nat×F9))):Pb→Pb
 | some (σ,s,k',n')=>some (σ,s,k++k',n++n')
 | none=>none
def RW(P:AJ)(n B:Nat)(ops:List Oper)(σ:D6)(s:DE)(o:Oper)(three:Bool):Option (D6×List Nat):=match PY ops σ o.guard with
 | some false=>(LH n o.dst σ s).map fun x=>(x.1,[])
 | some true=>bif three then (match QM P σ o.op with
   | some v=>(IP n o.dst v σ s s).map fun x=>(x.1,[])
   | none=>none)
  else match OZ P σ s.m o.op with
   | some (v,k)=>bif Ao k B then (IP n o.dst (.v v) σ s s).map fun x=>(x.1,[k]) else none
   | none=>none
 | none=>none
def Sg(P:AJ)(cf:Nat→List D0→DE→Option (D0×DE))(n:Nat)(ops:List Oper)(σ:D6)(s:DE)(id:Nat)(o:Oper):Option (D6×DE):=bif Xt id σ s.m&&Ao id s.nx then (match PY ops σ o.guard with
 | some false=>LH n o.dst σ s
 | some true=>(match IG P cf σ s id o.op with
   | some (v,s')=>IP n o.dst v σ s s'
   | none=>none)
 | none=>none) else none
def M0(P:AJ)(cf:Nat→List D0→DE→Option (D0×DE))(n B:Nat)(ops:List Oper)(cl ms:List Nat):Nat→List Nat→D6→DE→Pb
 | 0,L,σ,s=>bif L.isEmpty then some (σ,s,[],[]) else none
 | m+1,L,σ,s=>match L.find? (fun r=>LG ms L r&&Qj cl r) with
  | some r=>match ops.toArray[r]? with
   | some o=>match RW P n B ops σ s o (AA (Bw cl r) 3) with
    | some (σ1,k1)=>TP k1 [] (M0 P cf n B ops cl ms m (L.erase r) σ1 s)
    | none=>none
   | none=>none
  | none=>SX (fun j=>match ops.toArray[j]? with
   | some o=>match Sg P cf n ops σ s (B+j) o with
    | some (σ1,s1)=>TP [] (bif AA (Bw cl j) 1 then [(s.m,s1.m)] else []) (M0 P cf n B ops cl ms m (L.erase j) σ1 s1)
    | none=>none
   | none=>none) (P2 cl ms L)
def Wy(P:AJ)(cf:Nat→List D0→DE→Option (D0×DE))(n:Nat)(ops:List Oper)(σ:D6)(s:DE):Option (D6×DE) :=
 bif Ox ops (ops.map Rx) (P4 ops []) then (match M0 P cf n s.nx ops (ops.map Rx) (P4 ops []) ops.length (List.range ops.length) σ ⟨s.nx+ops.length,s.m⟩ with
  | some (σ',s',kp,sn)=>bif kp.all (fun k=>Ao k s.nx)&&sn.all (fun x=>kp.all fun k=>(Dh x.1 k).isSome&&Ac (Dh x.1 k=Dh x.2 k)) then some (σ',s') else none
  | none=>none) else none
section
variable {P:AJ} {cf:Nat→List D0→DE→Option (D0×DE)} {w0 w:Ae} {ρ:Nat→E3} {s s':DE} {σ σ':D6} {id n:Nat} {ops:List Oper} {o:Oper} {a:Act}
theorem US{α:Type}{t:Nat}{v:α}:∀ {l:List (Nat×α)},Dh l t=some v→(t,v)∈l
 | [],h=>by cases h
 | (k,x)::r,h=>by
  unfold Dh at h
  cases hb:AA k t with
  | true=>rw [hb] at h;injection h with h;subst h;rw [Dr hb];exact E8
  | false=>rw [hb] at h;exact Ha _ (US h)
theorem Agu{m:List (Nat×F9)}(h:Xt id σ m=true):NL id σ m:=by
 obtain ⟨h1,h2⟩:=CC.1 h;refine ⟨fun t x hl=>A2.1 h1 _ (US hl),fun k B hk=>?_⟩;have:=A2.1 h2 _ (US hk);obtain ⟨h3,h4⟩:=CC.1 this;exact ⟨by simpa using h3,h4⟩
theorem XT{f:Nat→Pb}:∀ {cs:List Nat} {σ':D6} {s':DE} {kp:List Nat} {sn:List (List (Nat×F9)×List (Nat×F9))},SX f cs=some (σ',s',kp,sn)→∀ j∈cs,∃ k1 n1,f j=some (σ',s',k1,n1)∧(∀ x∈k1,x∈kp)∧∀ x∈n1,x∈sn
 | [],_,_,_,_,h=>by cases h
 | [j],σ',s',kp,sn,h=>fun i hi=>by
  rw [Ju.1 hi];exact ⟨kp,sn,h,fun _ h=>h,fun _ h=>h⟩
 | j::i::r,σ',s',kp,sn,h=>by
  unfold SX at h;split at h;rename_i σ1 s1 k1 n1 σ2 s2 k2 n2 h1 h2;split at h;rename_i he;obtain ⟨rfl,rfl⟩:=he;injection h with h;injection h with h3 h;injection h with h4 h;injection h with h5 h6;subst h3 h4 h5 h6;intro x hx;rcases Ez.1 hx with rfl|hx;exact ⟨k1,n1,h1,fun _ h=>GN _ h,fun _ h=>GN _ h⟩;obtain ⟨k3,n3,q1,q2,q3⟩:=XT h2 x hx;exact ⟨k3,n3,q1,fun _ h=>Ei _ (q2 _ h),fun _ h=>Ei _ (q3 _ h)⟩;cases h;cases h
theorem UB{k:List Nat}{n0:List (List (Nat×F9)×List (Nat×F9))}{r:Pb}{kp:List Nat}{sn:List (List (Nat×F9)×List (Nat×F9))}(h:TP k n0 r=some (σ',s',kp,sn)):∃ k' n',r=some (σ',s',k',n')∧kp=k++k'∧sn=n0++n':=by
 unfold TP at h;split at h;injection h with h;injection h with h3 h;injection h with h4 h;injection h with h5 h6;subst h3 h4;exact ⟨_,_,rfl,h5.symm,h6.symm⟩;cases h
theorem Acl{Z:List Bf→Act→Ae→Prop}{row:H8}{gr:Bool}{K next:Act→Ae→Prop}(h:JV P Z false o a w K)(hk:∀ a' w',K a' w'→(gr=true→H4 row w w')∧next a' w'):MA P Z row gr o a w next:=by
 rcases h with ⟨v,w',hr,_,hn⟩|⟨w',hr,_,hn⟩|⟨f,ab,hr,hc⟩|⟨l,f,ac,ad,aa,hr,hc⟩;exact .inl ⟨v,w',hr,hk _ _ hn⟩;exact .inr (.inl ⟨w',hr,hk _ _ hn⟩);refine .inr (.inr (.inl ⟨f,ab,hr,Calls.mono hc fun e w' h=>?_⟩));rcases h with ⟨v,AU,_,h1⟩|⟨ch,AU,h1⟩;exact .inl ⟨v,AU,hk _ _ h1⟩;exact .inr ⟨ch,AU,h1⟩;refine .inr (.inr (.inr ⟨l,f,ac,ad,aa,hr,RoundIn.mono hc fun e w' h=>?_⟩));obtain ⟨v,AU,_,h1⟩:=h;exact ⟨v,AU,hk _ _ h1⟩
@[reducible] def keepR(ρ:Nat→E3)(KF:List Nat):H8:=⟨fun w w'=>∀ k∈KF,w'.heap[(ρ k).b]? = w.heap[(ρ k).b]?,fun _ _ _=>rfl,fun h h' k hk=>(h' k hk).trans (h k hk)⟩
theorem jF{d:Option Nat}{σ1:D6}{k1:List Nat}(h:(LH n d σ s).map (fun x=>(x.1,([]:List Nat)))=some (σ1,k1)):LH n d σ s=some (σ1,s)∧k1=[]:=by
 obtain ⟨⟨x1,x2⟩,h1,h2⟩:=Bu.1 h;injection h2 with h2 h3;subst h2 h3;refine ⟨?_,rfl⟩;rw [h1]
 cases d with
 | none=>injection h1 with h1;injection h1 with _ h1;rw [h1]
 | some t =>
  unfold LH at h1;dsimp only at h1
  cases hq:Ao t n with
  | false=>rw [hq] at h1;cases h1
  | true=>rw [hq,AL] at h1;injection h1 with h1;injection h1 with _ h1;rw [h1]
theorem Tz{d:Option Nat}{v:D0}{σ1:D6}{k1 k2:List Nat}(h:(IP n d v σ s s).map (fun x=>(x.1,k2))=some (σ1,k1)):IP n d v σ s s=some (σ1,s)∧k1=k2:=by
 obtain ⟨⟨x1,x2⟩,h1,h2⟩:=Bu.1 h;injection h2 with h2 h3;subst h2 h3;obtain rfl:=Py h1;exact ⟨h1,rfl⟩
theorem cH{B:Nat}{aa:Bool}{σ1:D6}{k1:List Nat}(h:RW P n B ops σ s o aa=some (σ1,k1))(hw:GM σ s.nx):GM σ1 s.nx:=by
 have ab:∀ {v:D0},IP n o.dst v σ s s=some (σ1,s)→GM σ1 s.nx:=fun hf=>by
  obtain ⟨h1,h2,h3,rfl⟩:=NS hf;exact Pd hw h2
 unfold RW at h;split at h;obtain ⟨h1,_⟩:=jF h
 cases hd:o.dst with
 | none=>rw [hd] at h1;injection h1 with h1;injection h1 with h1 _;subst h1;exact hw
 | some t =>
  rw [hd] at h1;unfold LH at h1;dsimp only at h1
  cases hq:Ao t n with
  | false=>rw [hq] at h1;cases h1
  | true=>rw [hq,AL] at h1;injection h1 with h1;injection h1 with h1 _;subst h1;exact Pd (d:=some t) (v:=.u) hw rfl
 cases aa with
 | true =>
  rw [AL] at h;split at h;exact ab (Tz h).1;cases h
 | false =>
  rw [AQ] at h;split at h;rename_i v k hv
  cases hq:Ao k B with
  | false=>rw [hq] at h;cases h
  | true=>rw [hq,AL] at h;exact ab (Tz h).1
  cases h
 cases h
theorem tX{B:Nat}{aa:Bool}{σ1:D6}{k1:List Nat}{ρB:Nat→E3}{KF:List Nat}(h:RW P n B ops σ s o aa=some (σ1,k1))(hi:FM w0 ρ s w)(ha:Cl n (ES ρ σ) a)(hB:∀ k,Ao k B=true→ρ k = ρB k)(hk:∀ x∈k1,x∈KF) :
 ∃ v,(CY o (yielded ops.toArray a.tmps)=true→∀ w1,aa=true∨H4 (keepR ρB KF) w w1→(execOp a.eval o).run P w1 = .ok (.value v) w1)∧(CY o (yielded ops.toArray a.tmps)=false→v=undef)∧Cl n (ES ρ σ1) (a.put o.dst v):=by
 unfold RW at h;split at h;rename_i h0;have ab:=PR h0 ha;obtain ⟨h1,_⟩:=jF h;refine ⟨undef,fun hq=>(by rw [ab] at hq;cases hq),fun _=>rfl,?_⟩
 cases hd:o.dst with
 | none=>rw [hd] at h1;injection h1 with h1;injection h1 with h1 _;subst h1;exact ha
 | some t =>
  rw [hd] at h1;unfold LH at h1;dsimp only at h1
  cases hq:Ao t n with
  | false=>rw [hq] at h1;cases h1
  | true=>rw [hq,AL] at h1;injection h1 with h1;injection h1 with h1 _;subst h1;exact Ux (v:=.u) hq ha
 rename_i h0;have ab:=PR h0 ha;obtain ⟨d,op,ty,pos,after,g⟩:=o
 cases aa with
 | true =>
  rw [AL] at h;split at h;rename_i v hv;obtain ⟨h1,_⟩:=Tz h;obtain ⟨h2,h3,h4,rfl⟩:=NS h1;exact ⟨_,fun _ w1 _=>Z3 hv _ _ _ _ a ha Cc w1 (G.refl w1),fun hq=>(by rw [ab] at hq;cases hq),SW h2 ha⟩;cases h
 | false =>
  rw [AQ] at h;split at h;rename_i v k hv
  cases hq:Ao k B with
  | false=>rw [hq] at h;cases h
  | true =>
   rw [hq,AL] at h;obtain ⟨h1,rfl⟩:=Tz h;obtain ⟨h2,h3,h4,rfl⟩:=NS h1;obtain ⟨A,hA,hr⟩:=gL (ρ:=ρ) (n:=n) (c:=True) hv;refine ⟨_,fun _ w1 hg=>?_,fun hq=>(by rw [ab] at hq;cases hq),SW h2 ha⟩;rcases hg with hg|hg;cases hg;have hh:=hg k (hk k E8);rw [← hB k hq] at hh;exact hr ((hi.ok k A hA).heap hh) _ _ _ _ a ha Cc w1 (G.refl w1)
  cases h
 cases h
theorem V1(h:Sg P cf n ops σ s id o=some (σ',s')):NL id σ s.m∧Ao id s.nx=true∧(match PY ops σ o.guard with
 | some false=>LH n o.dst σ s
 | some true=>(match IG P cf σ s id o.op with
   | some (v,s')=>IP n o.dst v σ s s'
   | none=>none)
 | none=>none)=some (σ',s'):=by
 unfold Sg at h
 cases hq:Xt id σ s.m&&Ao id s.nx with
 | false=>rw [hq] at h;cases h
 | true =>
  rw [hq,AL] at h
  obtain ⟨hf,aa⟩:=CC.1 hq
  exact ⟨Agu hf,aa,h⟩
theorem ZJ(h:Sg P cf n ops σ s id o=some (σ',s'))(hw:GM σ s.nx):s.nx≤s'.nx∧GM σ' s'.nx:=by
 have h:=(V1 h).2.2;split at h
 cases hd:o.dst with
 | none=>rw [hd] at h;injection h with h;injection h with h1 h2;subst h1 h2;exact ⟨Cq _,hw⟩
 | some t =>
  rw [hd] at h;unfold LH at h;dsimp only at h
  cases hq:Ao t n with
  | false=>rw [hq] at h;cases h
  | true=>rw [hq,AL] at h;injection h with h;injection h with h1 h2;subst h1 h2;exact ⟨Cq _,Pd (d:=some t) (v:=.u) hw rfl⟩
 split at h;obtain rfl:=Py h;obtain ⟨h1,h2,h3,rfl⟩:=NS h;exact ⟨h3,Pd (hw.mono h3) h2⟩;cases h;cases h
theorem pF{Z:List Bf→Act→Ae→Prop}(ab:PB P w0 cf)(h:Sg P cf n ops σ s id o=some (σ',s'))(hi:FM w0 ρ s w)(hw:GM σ s.nx)(ha:Cl n (ES ρ σ) a) :
 if CY o (yielded ops.toArray a.tmps)=true then JV P Z false o a w (Pv P w0 ρ s id n σ' s') else Pv P w0 ρ s id n σ' s' (a.put o.dst undef) w:=by
 obtain ⟨hf,aa,h⟩:=V1 h;split at h;rename_i h0;rw [CN (by rw [PR h0 ha];simp)];obtain ⟨rfl,_,h2⟩:=X4 h ha hw;exact ⟨ρ,fun _ _=>rfl,hi,h2⟩;rename_i h0;rw [CO (PR h0 ha)];obtain ⟨d,op,ty,pos,after,g⟩:=o;split at h;rename_i v s1 hv;obtain rfl:=Py h;obtain ⟨h1,h2,h3,rfl⟩:=NS h;exact YN ab hv h1 hi hw hf aa ha;cases h;cases h
theorem Xq{B:Nat}{cl ms:List Nat}:∀ (m:Nat) (L:List Nat) (σ:D6) (s:DE) (kp:List Nat) (sn:List (List (Nat×F9)×List (Nat×F9))),L.length=m→M0 P cf n B ops cl ms m L σ s=some (σ',s',kp,sn)→GM σ s.nx→s.nx≤s'.nx∧GM σ' s'.nx
 | 0,L,σ,s,kp,sn,_,h,hw=>by
  unfold M0 at h
  cases hq:L.isEmpty with
  | false=>rw [hq] at h;cases h
  | true=>rw [hq,AL] at h;injection h with h;injection h with h3 h;injection h with h4 h;subst h3 h4;exact ⟨Cq _,hw⟩
 | m+1,L,σ,s,kp,sn,hL,h,hw=>by
  unfold M0 at h;split at h;rename_i r hr;split at h;rename_i o ho;split at h;rename_i σ1 k1 h1;obtain ⟨k',n',h2,ab,aa⟩:=UB h;exact Xq m _ σ1 s k' n' (by rw [GZ (Jz hr)];omega) h2 (cH h1 hw);cases h;cases h
  obtain ⟨j,hj⟩:∃ j,j∈P2 cl ms L:=by
   cases hc:P2 cl ms L with
   | nil=>rw [hc] at h;cases h
   | cons j r=>exact ⟨j,E8⟩
  obtain ⟨k1,n1,h1,_,_⟩:=XT h j hj;split at h1;rename_i o ho;split at h1;rename_i σ1 s1 h2;obtain ⟨k',n',h3,ab,aa⟩:=UB h1;obtain ⟨h4,h5⟩:=ZJ h2 hw;obtain ⟨h6,h7⟩:=Xq m _ σ1 s1 k' n' (by rw [GZ (List.mem_filter.1 hj).1];omega) h3 h5;exact ⟨Cj h4 h6,h7⟩;cases h1;cases h1
theorem VX{Z:List Bf→Act→Ae→Prop}{B:Nat}{cl ms:List Nat}{ρB:Nat→E3}{KF:List Nat}{K:Act→Ae→Prop}(am:PB P w0 cf)(af:∀ k∈KF,Ao k B=true)(hK:∀ ρ' a' w',(∀ k,Ao k B=true→ρ' k = ρB k)→FM w0 ρ' s' w'→Cl n (ES ρ' σ') a'→K a' w') :
  ∀ (m:Nat) (L:List Nat) (σ:D6) (s:DE) (kp:List Nat) (sn:List (List (Nat×F9)×List (Nat×F9))) (ρ:Nat→E3) (a:Act) (w:Ae),L.length=m→M0 P cf n B ops cl ms m L σ s=some (σ',s',kp,sn)→(∀ k∈kp,k∈KF)→(∀ x∈sn,∀ k∈KF,(Dh x.1 k).isSome=true∧Dh x.1 k=Dh x.2 k)→
  FM w0 ρ s w→GM σ s.nx→Cl n (ES ρ σ) a→(∀ k,Ao k B=true→ρ k = ρB k)→B≤s.nx→Gx P Z ops.toArray (Bw cl) (Iu ms) (keepR ρB KF) K m L a w
 | 0,L,σ,s,kp,sn,ρ,a,w,_,h,_,_,hi,hw,ha,hB,_=>by
  unfold M0 at h
  cases hq:L.isEmpty with
  | false=>rw [hq] at h;cases h
  | true =>
   rw [hq,AL] at h;injection h with h;injection h with h3 h;injection h with h4 h;subst h3 h4;exact ⟨by simpa using hq,hK ρ a w hB hi ha⟩
 | m+1,L,σ,s,kp,sn,ρ,a,w,hL,h,hkp,hsn,hi,hw,ha,hB,hBn=>by
  unfold M0 at h;split at h;rename_i r hr;have an:=Jz hr;have av:=List.find?_some hr;obtain ⟨ab,ak⟩:=CC.1 av;split at h;rename_i o ho;split at h;rename_i σ1 k1 h1;obtain ⟨k',n',h2,ah,ag⟩:=UB h;obtain ⟨v,q1,q2,q3⟩:=tX h1 hi ha hB fun x hx=>hkp x (by rw [ah];exact GN _ hx);refine .inl ⟨r,an,(NU ms L r).1 ab,(WB cl r).1 ak,o,ho,v,fun aa w1 hg=>q1 aa w1 (hg.imp (fun e=>by rw [e];rfl) id),q2,?_⟩;exact VX am af hK m _ σ1 s k' n' ρ _ w (by rw [GZ an];omega) h2 (fun k hk=>hkp k (by rw [ah];exact Ei _ hk)) (fun x hx=>hsn x (by rw [ag];exact Ei _ hx)) hi (cH h1 hw) q3 hB hBn;cases h;cases h;rename_i al;refine .inr ⟨fun r hr ab ak=>?_,fun j hj ab=>?_⟩;have:=List.find?_eq_none.1 al r hr;rw [(NU ms L r).2 ab,(WB cl r).2 ak] at this;exact this rfl;obtain ⟨k1,n1,h1,au,ao⟩:=XT h j (List.mem_filter.2 ⟨hj,(NU ms L j).2 ab⟩);split at h1;rename_i o ho;refine ⟨o,ho,?_⟩;split at h1;rename_i σ1 s1 h2;obtain ⟨k',n',h3,ah,ag⟩:=UB h1;obtain ⟨h4,h5⟩:=ZJ h2 hw;have ai:=pF (Z:=Z) am h2 hi hw ha
  have ar:∀ ρ1,QC s.nx (B+j) ρ ρ1→∀ k,Ao k B=true→ρ1 k = ρ k:=fun ρ1 hA k hk=>by
   refine hA k ?_;have:=E0 hk;rw [NM hk hBn,LM O];rfl
  have ac:∀ a' w',Pv P w0 ρ s (B+j) n σ1 s1 a' w'→((Bw cl j == 1)=true→H4 (keepR ρB KF) w w')∧Gx P Z ops.toArray (Bw cl) (Iu ms) (keepR ρB KF) K m (L.erase j) a' w':=by
   rintro a' w' ⟨ρ1,hA,hI,aw⟩;have ap:=ar ρ1 hA;refine ⟨fun hc k hk=>?_,?_⟩;have ax:AA (Bw cl j) 1=true:=by rw [show Bw cl j=1 by simpa using hc];rfl
   have:=hsn (s.m,s1.m) (ao _ (by rw [ag,ax];exact GN _ E8)) k hk;obtain ⟨aq,aj⟩:=this;obtain ⟨A,ad⟩:=Option.isSome_iff_exists.1 aq;dsimp only at ad aj;rw [ad] at aj;have AU:=ap k (af k hk);have ae:A.l.map (v0 ρ1)=A.l.map (v0 ρ):=Ri hA (Vh (hi.wf k A ad).2 ((V1 h2).1.m k A ad).2);have:=(hi.ok k A ad).ac (hI.ok k A aj.symm) AU ae;rw [hB k (af k hk)] at this;exact this;exact VX am af hK m _ σ1 s1 k' n' ρ1 a' w' (by rw [GZ hj];omega) h3 (fun k hk=>hkp k (au k (by rw [ah];exact Ei _ hk))) (fun x hx=>hsn x (ao x (by rw [ag];exact Ei _ hx))) hI h5 aw (fun k hk=>(ap k hk).trans (hB k hk)) (Cj hBn h4)
  split;rename_i aa;rw [CO aa] at ai;exact Acl ai ac;rename_i aa;rw [CN aa] at ai;exact (ac _ _ ai).2;cases h1;cases h1
end
inductive Qc where
  | n|r|x (id:Nat)
def GE(P:AJ)(cf:Nat→List D0→DE→Option (D0×DE))(n:Nat):Nat→Code→D6→DE→Option (Qc×D6×DE)
 | 0,_,_,_=>none
 | f+1,c,σ,s=>match c with
  | .skip=>some (.n,σ,s)
  | .ret=>some (.r,σ,s)
  | .exit id=>some (.x id,σ,s)
  | .region _ ops draw=>(bif draw then Wy P cf n ops.toList σ s else PW P cf n ops.toList ops.toList σ s).map fun x=>(.n,x.1,x.2)
  | .seq a b=>match GE P cf n f a σ s with
   | some (.n,σ',s')=>GE P cf n f b σ' s'
   | r=>r
  | .cond x p q=>match a0 (Fc σ x) with
   | some (.b b)=>GE P cf n f (bif b then p else q) σ s
   | _=>none
  | .block id c=>match GE P cf n f c σ s with
   | some (.x i,σ',s')=>some (bif AA i id then .n else .x i,σ',s')
   | r=>r
  | .loop c=>match GE P cf n f c σ s with
   | some (.n,σ',s')=>GE P cf n f (.loop c) σ' s'
   | r=>r
  | _=>none
def O5:Nat→List D0→D6
 | _,[]=>[]
 | k,v::vs=>(k,v)::O5 (k+1) vs
def UC(P:AJ)(σ:D6)(m:List (Nat×F9)):ResultVar→Option Ih
 | .tmp t=>match Dh σ t with
  | some (.v a)=>some a
  | _=>none
 | .cell t T=>(OZ P σ m (.load T (.tmp t))).map (·.1)
def Wz(P:AJ)(rs:List ResultVar):Qc×D6×DE→Option (D0×DE)
 | (.r,σ,s)=>match rs with
  | []=>some (.t [],s)
  | [r]=>(UC P σ s.m r).map fun a=>(.v a,s)
  | rs=>(Lh (UC P σ s.m) rs).map fun l=>(.t l,s)
 | (.n,σ,s)=>match rs with
  | []=>some (.t [],s)
  | _=>none
 | _=>none
def Ug(P:AJ):Nat→Nat→List D0→DE→Option (D0×DE)
 | 0,_,_,_=>none
 | f+1,g,vs,s=>match P.funcs[g]? with
  | some fn=>match fn.body with
   | some c=>bif vs.all (NA 1 (some 0)) then (match GE P (Ug P f) (vs.length+(fn.ntmps-vs.length)) 3000 c (O5 0 vs) s with
    | some r=>Wz P fn.results.toList r
    | none=>none) else none
   | none=>none
  | none=>none
def R1(N:Act→Ae→Prop)(X:List (Nat×(Act→Ae→Prop)))(T:Act→Ae→Prop)(e:Qc)(a:Act)(w:Ae):Prop:=match e with
 | .n=>N a w
 | .r=>T a w
 | .x id=>∃ k,X.lookup id=some k∧k a w
section
variable {P:AJ} {cf:Nat→List D0→DE→Option (D0×DE)} {w0 w:Ae} {ρ:Nat→E3} {s s':DE} {σ σ':D6} {id n:Nat} {a:Act}
theorem FM.drew(hi:FM w0 ρ s w):FM w0 ρ s w.drew:=⟨hi.g.trans (G.drew _),fun k B hk=>(hi.ok k B hk).heap rfl,hi.wf,hi.ne⟩
theorem cF{ops:List Oper}(h:Wy P cf n ops σ s=some (σ',s')):Ox ops (ops.map Rx) (P4 ops [])=true∧∃ kp sn,M0 P cf n s.nx ops (ops.map Rx) (P4 ops []) ops.length (List.range ops.length) σ ⟨s.nx+ops.length,s.m⟩=some (σ',s',kp,sn)∧(∀ k∈kp,Ao k s.nx=true)∧∀ x∈sn,∀ k∈kp,(Dh x.1 k).isSome=true∧Dh x.1 k=Dh x.2 k:=by
 unfold Wy at h
 cases hq:Ox ops (ops.map Rx) (P4 ops []) with
 | false=>rw [hq] at h;cases h
 | true =>
  rw [hq,AL] at h;split at h;rename_i σ1 s1 kp sn h1
  cases hc:kp.all (fun k=>Ao k s.nx)&&sn.all (fun x=>kp.all fun k=>(Dh x.1 k).isSome&&Ac (Dh x.1 k=Dh x.2 k)) with
  | false=>rw [hc] at h;cases h
  | true =>
   rw [hc,AL] at h;injection h with h;injection h with h2 h3;subst h2 h3;obtain ⟨h4,h5⟩:=CC.1 hc;refine ⟨rfl,kp,sn,h1,fun k hk=>A2.1 h4 k hk,fun x hx k hk=>?_⟩;have:=A2.1 (A2.1 h5 x hx) k hk;simpa using this
  cases h
theorem LV:∀ (f:Nat) (c:Code) (σ:D6) (s:DE) (e:Qc) (σ':D6) (s':DE),GE P cf n f c σ s=some (e,σ',s')→GM σ s.nx→s.nx≤s'.nx∧GM σ' s'.nx
 | 0,_,_,_,_,_,_,h,_=>by cases h
 | f+1,c,σ,s,e,σ',s',h,hw=>by
  unfold GE at h;split at h;injection h with h;injection h with _ h;injection h with h1 h2;subst h1 h2;exact ⟨Cq _,hw⟩;injection h with h;injection h with _ h;injection h with h1 h2;subst h1 h2;exact ⟨Cq _,hw⟩;injection h with h;injection h with _ h;injection h with h1 h2;subst h1 h2;exact ⟨Cq _,hw⟩;rename_i aa;obtain ⟨⟨x1,x2⟩,h1,h2⟩:=Bu.1 h;injection h2 with _ h2;injection h2 with h3 h4;subst h3 h4
  cases aa with
  | true =>
   rw [AL] at h1;obtain ⟨_,kp,sn,h5,_⟩:=cF h1;obtain ⟨h6,h7⟩:=Xq _ _ _ _ kp sn BR h5 (hw.mono (E6 _ _));exact ⟨Cj (E6 _ _) h6,h7⟩
  | false=>exact cU _ _ _ h1 hw
  split at h;rename_i σ1 s1 h1;obtain ⟨h2,h3⟩:=LV f _ _ _ _ _ _ h1 hw;obtain ⟨h4,h5⟩:=LV f _ _ _ _ _ _ h h3;exact ⟨Cj h2 h4,h5⟩;exact LV f _ _ _ _ _ _ h hw;split at h;exact LV f _ _ _ _ _ _ h hw;cases h;split at h;rename_i i σ1 s1 h1;injection h with h;injection h with _ h;injection h with h2 h3;subst h2 h3;exact LV f _ _ _ _ _ _ h1 hw;exact LV f _ _ _ _ _ _ h hw;split at h;rename_i σ1 s1 h1;obtain ⟨h2,h3⟩:=LV f _ _ _ _ _ _ h1 hw;obtain ⟨h4,h5⟩:=LV f _ _ _ _ _ _ h h3;exact ⟨Cj h2 h4,h5⟩;exact LV f _ _ _ _ _ _ h hw;cases h
theorem lS(ao:PB P w0 cf)(hm:P.follows .mixedOrders=true)(F:Nat):∀ (f:Nat),f≤F→∀ (c:Code) (σ:D6) (s:DE) (e:Qc) (σ':D6) (s':DE) (ρ:Nat→E3) (w:Ae) (N:Act→Ae→Prop) (X:List (Nat×(Act→Ae→Prop))) (T:Act→Ae→Prop),GE P cf n f c σ s=some (e,σ',s')→FM w0 ρ s w→GM σ s.nx→
 (∀ ρ' a' w',(∀ k,Ao k s.nx=true→ρ' k = ρ k)→FM w0 ρ' s' w'→Cl n (ES ρ' σ') a'→R1 N X T e a' w')→Se P n c N X T (ES ρ σ) w:=by
 induction F with
 | zero =>
  intro f hf c σ s e σ' s' ρ w N X T h;obtain rfl:f=0:=by omega
  cases h
 | succ F ih =>
  intro f hf c σ s e σ' s' ρ w N X T h hi hw hK
  cases f with
  | zero=>cases h
  | succ f =>
  have am:=ih;have ih:=ih f O;have al:∀ {σ1:D6} {s1:DE} {AU:Qc} {c1:Code} {ρ1 ρ2:Nat→E3},GE P cf n f c1 σ s=some (AU,σ1,s1)→(∀ k,Ao k s.nx=true→ρ1 k = ρ k)→(∀ k,Ao k s1.nx=true→ρ2 k = ρ1 k)→∀ k,Ao k s.nx=true→ρ2 k = ρ k:=fun h1 q1 q2 k hk=>(q2 k (NM hk (LV f _ _ _ _ _ _ h1 hw).1)).trans (q1 k hk);have h0:=h;unfold GE at h;split at h;injection h with h;injection h with h2 h;injection h with h3 h4;subst h2 h3 h4;exact CJ fun a ha=>hK ρ a w (fun _ _=>rfl) hi ha;injection h with h;injection h with h2 h;injection h with h3 h4;subst h2 h3 h4;exact Dl fun a ha=>hK ρ a w (fun _ _=>rfl) hi ha;injection h with h;injection h with h2 h;injection h with h3 h4;subst h2 h3 h4;refine .mk fun a ha=>wp_exit ?_;obtain ⟨k,h5,h6⟩:=hK ρ a w (fun _ _=>rfl) hi ha;show match X.lookup _ with|some k=>k a w|none=>False
  rw [h5];exact h6;rename_i id ops ap;obtain ⟨⟨x1,x2⟩,h1,h2⟩:=Bu.1 h;injection h2 with h5 h2;injection h2 with h3 h4;subst h3 h4 h5
  cases ap with
  | true =>
   rw [AL] at h1;obtain ⟨q0,kp,sn,q1,q2,q3⟩:=cF h1;have e:ops=ops.toList.toArray:=by simp
   rw [e];refine Dx (keepR ρ kp) _ _ hm q0 _ J (.mk fun a ha=>?_);exact VX ao q2 (fun ρ' a' w' hA hI hk=>hK ρ' a' w' hA hI hk) _ _ σ _ kp sn ρ a w.drew BR q1 (fun _ h=>h) q3 (hi.drew.bi (E6 _ _)) (hw.mono (E6 _ _)) ha (fun _ _=>rfl) (E6 _ _)
  | false =>
   rw [AQ] at h1;refine .mk fun a ha=>?_;refine rT (cl:=fun _=>2) (W0:=w) ?_;have:=aR (ops:=ops.toList) (Z:=QO) (W0:=w) ao ops.toList 0 σ s ρ a w (fun a w=>(Ld N X T fun _ _=>False) .normal a w) BR h1 hi hw ha fun ρ' a' w' hA hI hk=>hK ρ' a' w' hA hI hk;rw [List.range_eq_range'];simpa using this
  rename_i x y;split at h;rename_i σ1 s1 h1;refine Ks fun K an=>ih _ σ s .n σ1 s1 ρ w K X T h1 hi hw fun ρ1 a1 w1 aa ad ac=>?_;exact an (ES ρ1 σ1) w1 (ih _ σ1 s1 e σ' s' ρ1 w1 N X T h ad (LV f _ _ _ _ _ _ h1 hw).2 fun ρ2 a2 w2 ag ae ah=>hK ρ2 a2 w2 (al h1 aa ag) ae ah) a1 ac;rename_i af;refine Ks fun K an=>ih _ σ s e σ' s' ρ w K X T h hi hw fun ρ1 a1 w1 aa ad ac=>?_;have:=hK ρ1 a1 w1 aa ad ac
  cases e with
  | n=>exact absurd h (af _ _)
  | _=>exact this
  split at h;rename_i b hb
  cases b with
  | true=>exact Afv (Gv hb) (ih _ σ s e σ' s' ρ w N X T h hi hw hK)
  | false=>exact rJ (Gv hb) (ih _ σ s e σ' s' ρ w N X T h hi hw hK)
  cases h;rename_i id c;split at h;rename_i i σ1 s1 h1;injection h with h;injection h with h2 h;injection h with h3 h4;subst h2 h3 h4;refine DF (ih _ σ s _ σ1 s1 ρ w N _ T h1 hi hw fun ρ1 a1 w1 aa ad ac=>?_);have:=hK ρ1 a1 w1 aa ad ac;by_cases hq:i=id;subst hq;rw [Du,AL] at this;exact ⟨N,by simp [List.lookup],this⟩;rw [LM hq,AQ] at this;obtain ⟨k,q1,q2⟩:=this;refine ⟨k,?_,q2⟩;rw [List.lookup_cons];have:(i == id)=false:=by simpa using hq
  rw [this];exact q1;rename_i af;refine DF (ih _ σ s e σ' s' ρ w N _ T h hi hw fun ρ1 a1 w1 aa ad ac=>?_);have:=hK ρ1 a1 w1 aa ad ac
  cases e with
  | x i=>exact absurd h (af _ _ _)
  | _=>exact this
  rename_i c;refine PM (α:=(Nat×D6×DE×(Nat→E3))) (fun x w=>FM w0 x.2.2.2 x.2.2.1 w∧GM x.2.1 x.2.2.1.nx∧GE P cf n x.1 (.loop c) x.2.1 x.2.2.1=some (e,σ',s')∧(∀ k,Ao k s.nx=true→x.2.2.2 k = ρ k)∧s.nx≤x.2.2.1.nx∧x.1≤F+1) (fun x=>ES x.2.2.2 x.2.1) (fun x=>x.1) (f+1,σ,s,ρ) ⟨hi,hw,h0,fun _ _=>rfl,Cq _,hf⟩ (fun _ _ _ h=>h) ?_;rintro ⟨g,σ1,s1,ρ1⟩ w1 ⟨ak,ai,ab,aa,aj,hg⟩;dsimp only at ak ai ab aa aj hg ⊢
  cases g with
  | zero=>cases ab
  | succ g =>
   unfold GE at ab;dsimp only at ab;split at ab;rename_i σ2 s2 h2;obtain ⟨h3,h4⟩:=LV g _ _ _ _ _ _ h2 ai;refine am g O _ σ1 s1 .n σ2 s2 ρ1 w1 _ X T h2 ak ai fun ρ2 a2 w2 ag ae ah=>?_;exact ⟨(g,σ2,s2,ρ2),ah,⟨ae,h4,ab,fun k hk=>(ag k (NM hk aj)).trans (aa k hk),Cj aj h3,O⟩,Nat.lt_succ_self _⟩;rename_i af;refine am g O _ σ1 s1 e σ' s' ρ1 w1 _ X T ab ak ai fun ρ2 a2 w2 ag ae ah=>?_;have:=hK ρ2 a2 w2 (fun k hk=>(ag k (NM hk aj)).trans (aa k hk)) ae ah
   cases e with
   | n=>exact absurd ab (af _ _)
   | _=>exact this
  cases h
theorem fA{r:ResultVar}{v:Ih}(h:UC P σ s.m r=some v)(hi:FM w0 ρ s w){rs:List ResultVar}{vs:List Aj}(k:KO P n (ES ρ σ) w rs vs):KO P n (ES ρ σ) w (r::rs) (HW ρ v::vs):=by
 cases r with
 | tmp t =>
  have h:(match Dh σ t with|some (.v a)=>some a|_=>none)=some v:=h;split at h;rename_i a hl;injection h with h;subst h;exact Ij (by rw [PA,hl];rfl) k;cases h
 | cell t T =>
  have h:(OZ P σ s.m (.load T (.tmp t))).map (·.1)=some v:=h;obtain ⟨⟨u,k0⟩,h1,h2⟩:=Bu.1 h;dsimp only at h2;subst h2;unfold OZ at h1;dsimp only at h1;split at h1;rename_i j o hp;have hx:=eM (ρ:=ρ) (cQ hp);split at h1;rename_i B hB;have hr:=(hi.ok j B hB).row
  cases ht:GK P T with
  | true =>
   rw [ht,AL] at h1;obtain ⟨a,h3,h4⟩:=Bu.1 h1;injection h4 with h4 h5;subst h4 h5;refine Oh hx ht ?_ k;have:=hr _ (v0 ρ a) (by rw [Ht,h3];rfl);rwa [Hv] at this
  | false =>
   rw [ht,AQ] at h1;split at h1;rename_i z h3;split at h1;rename_i hz;injection h1 with h1;injection h1 with h4 h5;subst h4 h5;exact GJ hx h3 (by rw [CR,List.length_take,List.length_drop];omega) (dZ hr _ _) k;cases h1;cases h1
  cases h1;cases h1
theorem Y0(hi:FM w0 ρ s w):∀ {rs:List ResultVar} {l:List Ih},Lh (UC P σ s.m) rs=some l→KO P n (ES ρ σ) w rs (l.map (HW ρ))∧l.length=rs.length
 | [],l,h=>by injection h with h;subst h;exact ⟨GD,rfl⟩
 | r::rs,l,h=>by
  unfold Lh at h;split at h;rename_i y l' h1 h2;injection h with h;subst h;obtain ⟨q1,q2⟩:=Y0 hi h2;exact ⟨fA h1 hi q1,by rw [Gm,Gm,q2]⟩;cases h
theorem aG(ρ:Nat→E3):∀ (k:Nat) (vs:List D0),vs.all (NA 1 (some 0))=true→ES ρ (O5 k vs)=JJ k (vs.map (Lv ρ))
 | _,[],_=>rfl
 | k,v::vs,h=>by
  rw [List.all_cons,Bool.and_eq_true] at h;have ih:=aG ρ (k+1) vs h.2;unfold O5;rw [D4];unfold JJ;rw [← ih];unfold ES;rw [D4]
  cases v with
  | u=>cases h.1
  | _=>rfl
theorem gR{p:Nat→Bool}:∀ (vs:List D0) (k t:Nat) (x:D0),(∀ v∈vs,IF p v=true)→Dh (O5 k vs) t=some x→IF p x=true
 | [],_,_,_,_,h=>by cases h
 | v::vs,k,t,x,hv,h=>by
  unfold O5 Dh at h
  cases hb:AA k t with
  | true=>rw [hb] at h;injection h with h;subst h;exact hv _ E8
  | false=>rw [hb] at h;exact gR vs (k+1) t x (fun y hy=>hv y (Ha _ hy)) h
theorem YJ(hm:P.follows .mixedOrders=true):∀ (f:Nat),PB P w0 (Ug P f)
 | 0=>fun g vs s v s' h=>by cases h
 | f+1=>fun g vs s v s' h ρ w hi ag=>by
  unfold Ug at h;split at h;rename_i fn ah;split at h;rename_i c hc
  cases hq:vs.all (NA 1 (some 0)) with
  | false=>rw [hq] at h;cases h
  | true =>
   rw [hq,AL] at h;split at h;rename_i r hr;obtain ⟨e,σ1,s1⟩:=r
   have af:s1=s':=by
    unfold Wz at h;split at h;rename_i σ2 s2 aa;injection aa with _ aa;injection aa with h3 h4;subst h3 h4;split at h;injection h with h;injection h with _ h;obtain ⟨_,_,h4⟩:=Bu.1 h;injection h4 with _ h4;obtain ⟨_,_,h4⟩:=Bu.1 h;injection h4 with _ h4;rename_i σ2 s2 aa;injection aa with _ aa;injection aa with h3 h4;subst h3 h4;split at h;injection h with h;injection h with _ h;cases h;cases h
   subst af;refine JB ah hc J (JJ 0 (vs.map (Lv ρ))) (fun _ _ _ h=>h) ?_;rw [CR,← aG ρ 0 vs hq];refine lS (YJ hm f) hm 3000 3000 (Cq _) c (O5 0 vs) s e σ1 s1 ρ w _ _ _ hr hi (fun t x hl=>gR vs 0 t x ag hl) fun ρ' a' w' hA hI hk=>?_;have ac:∀ u,u=Lv ρ' v→∃ ρ',(∀ k,Ao k s.nx=true→ρ' k = ρ k)∧FM w0 ρ' s1 w'∧u=Lv ρ' v:=fun u hu=>⟨ρ',hA,hI,hu⟩;have ab:fn.results=fn.results.toList.toArray:=by simp
   unfold Wz at h;split at h;rename_i σ2 s2 aa;injection aa with h2 aa;injection aa with h3 h4;subst h2 h3 h4;split at h;rename_i hz;injection h with h;injection h with h _;subst h;dsimp only [R1];refine fI (by rw [ab,hz]) ?_ a' hk;exact ac _ rfl;rename_i r hz;obtain ⟨u,h3,h4⟩:=Bu.1 h;injection h4 with h4 _;subst h4;dsimp only [R1];refine LJ (by rw [ab,hz]) (fA h3 hI GD) ?_ a' hk;exact ac _ rfl;rename_i rs ad ae;obtain ⟨l,h3,h4⟩:=Bu.1 h;injection h4 with h4 _;subst h4;obtain ⟨q1,q2⟩:=Y0 (n:=vs.length+(fn.ntmps-vs.length)) hI h3;dsimp only [R1]
   refine IZ ab (by
    match fn.results.toList,ad,ae with
    | [],ad,_=>exact absurd rfl ad
    | [r],_,ae=>exact absurd rfl (ae r)
    | _::_::_,_,_=>rfl) q1 (by rw [CR,q2]) ?_ a' hk
   exact ac _ rfl;rename_i σ2 s2 aa;injection aa with h2 aa;injection aa with h3 h4;subst h2 h3 h4;split at h;rename_i hz;injection h with h;injection h with h _;subst h;dsimp only [R1];refine Hh (by rw [ab,hz]) ?_ a' hk;exact ac _ rfl;cases h;cases h;cases h
  cases h;cases h
end
def RD(g:List Ft→Option Nd):Nat→List Ft→Option (List Nd)
 | 0,l=>bif l.isEmpty then some [] else none
 | q+1,l=>match g (l.take 9),RD g q (l.drop 9) with
  | some t,some r=>some (t::r)
  | _,_=>none
def S3(m:List (Nat×F9)):Nat→List Ft→Option Nd
 | f+1,[.i .i64 k,.s x,.i .i64 n,.i .i64 p,ks,.i .i64 tk,.s tn,.i .i64 r,.i .i64 u]=>(match ks with
  | .e=>some []
  | .r j q=>match Dh m j with
   | some ⟨e,some (z,q'),c⟩=>if e=26∧z=9∧q'=q then RD (S3 m f) q c else none
   | _=>none
  | _=>none).map fun l=>.mk k x n p l ⟨tk,tn⟩ r u
 | _,_=>none
section
variable {w0 w:Ae} {ρ:Nat→E3} {s:DE}
def pN(w0 w:Ae)(k:Nat):Prop:=w0.heap.size≤k∧G8 w k
theorem Yo{g:List Ft→Option Nd}{D:Nat→Prop}(hg:∀ l t,g l=some t→∃ v,l.map (v0 ρ)=De t v∧Bv w D t.j v):∀ (q:Nat) (l:List Ft) (ts:List Nd),RD g q l=some ts→FC w D ts (l.map (v0 ρ))∧ts.length=q
 | 0,l,ts,h=>by
  unfold RD at h
  cases l with
  | nil=>injection h with h;subst h;exact ⟨Tc,rfl⟩
  | cons=>cases h
 | q+1,l,ts,h=>by
  unfold RD at h;split at h;rename_i t r h1 h2;injection h with h;subst h;obtain ⟨v,h3,h4⟩:=hg _ _ h1;obtain ⟨h5,h6⟩:=Yo hg q _ r h2;refine ⟨?_,by rw [Gm,h6]⟩;have:=Gw h4 h5;rw [← h3,← Gq,List.take_append_drop] at this;exact this;cases h
theorem iY(hi:FM w0 ρ s w):∀ (f:Nat) (l:List Ft) (t:Nd),S3 s.m f l=some t→∃ v,l.map (v0 ρ)=De t v∧Bv w (pN w0 w) t.j v
 | 0,l,t,h=>by cases h
 | f+1,l,t,h=>by
  unfold S3 at h;split at h;rename_i hf;injection hf with hf;subst hf;obtain ⟨ks,h1,rfl⟩:=Bu.1 h;refine ⟨_,rfl,?_⟩;show Bv w _ ks _;split at h1;injection h1 with h1;subst h1;exact Ob _ _;split at h1;rename_i e z q' c hl;split at h1;rename_i hc;obtain ⟨rfl,rfl,rfl⟩:=hc;obtain ⟨h2,h3⟩:=Yo (iY hi f) _ _ _ h1;have hA:=hi.ok _ _ hl;have hO:=hA.2.1;refine ⟨some ⟨(ρ _).b,0,none⟩,(ρ _).c,by rw [h3];rfl,?_,fun ac=>⟨_,0,rfl,⟨hA.1,?_⟩,_,hA.row,h2⟩⟩;rcases hO.2 with ⟨q1,_⟩|⟨g,aa,ab,q1,_,_,q2,_⟩;cases q1;injection q1 with _ _ q1;rw [h3,q1];exact q2;rcases hO.2 with ⟨q1,_⟩|⟨g,aa,ab,q1,_,q3,_⟩;cases q1;injection q1 with q1 _ _;injection q1 with q1;injection q1 with q1 _ _;rw [q1];exact ⟨_,_,q3⟩;cases h1;cases h1;cases h1;cases h
end
noncomputable def Oz(s:List UInt8):Option Nd:=match Ug An 100 16 [.v (.c (.s s))] ⟨0,[]⟩ with
 | some (.t [.g l,.c (.i .i64 a),.c (.i .i64 b)],s')=>if a=0∧b=0 then S3 s'.m 60 l else none
 | _=>none
theorem kM{s:List UInt8}{T:Nd}(h:Oz s=some T)(w:Ae):Bz An 16 #[Cg s] w fun r w'=>(∃ u,r = .tuple #[u,.int .i64 0,.int .i64 0]∧Ii T w.heap.size u w')∧G w w':=by
 unfold Oz at h;split at h;rename_i l a b s' hc;split at h;rename_i hz;obtain ⟨rfl,rfl⟩:=hz;have hi:FM w (fun _=>⟨0,0,none⟩) ⟨0,[]⟩ w:=⟨G.refl w,fun k B hk=>(by cases hk),fun k B hk=>(by cases hk),fun k k' B B' hk=>(by cases hk)⟩;refine (YJ CG 100 _ _ _ _ _ hc _ w hi fun x hx=>by rw [Ju.1 hx];rfl).mono fun r w' hr=>?_;obtain ⟨ρ',_,hI,rfl⟩:=hr;obtain ⟨v,h1,h2⟩:=iY hI _ _ _ h;refine ⟨⟨Cd T v,?_,TV h2⟩,hI.g⟩;show Value.tuple #[Value.agg (l.map (v0 ρ')).toArray,_,_]=_;rw [h1];rfl;cases h;cases h
theorem Rc{s:List UInt8}{T:Nd}(hp:Oz s=some T)(hc:count T≤1000000)(w:Ae)(hL:G7 w.heap.size w):Bz An 26 #[Cg s] w fun r w'=>(∃ u,r = .tuple #[u,.int .i64 (D8 T).2.1,.int .i64 (D8 T).2.2]∧Ii (D8 T).1 w.heap.size u w')∧G w w':=by
 have g:=G.refl w;refine JB (m:=23) Tryz.func26 J J [(0,True,_)] Bp ?_;refine Am (Au (En J Cp J ?_));intro b2 w2 N2;have l2:=N2.ge g;have al:=N2.y;have g:=g.trans N2.g;have E:=(IQ _).new N2;refine Bj J (Bj J (Ai (Al (Am (Au (Ap J (EB J (BF nY BX (Cn J CI) J) (kM hp _) ?_)))))));rintro av ad ⟨⟨an,rfl,ah,ai,rfl,aa⟩,af⟩;refine Ev af fun g=>?_;replace E:=E.A af;have aa:Bv ad (fun k=>k<ad.heap.size) T.j (.slice ah T.j.length ai):=(Bv.mono aa fun k _ h=>h);refine Ap J (FJ J J (FJ J J (FJ J J (En J Cp J ?_))));intro b5 w5 N5;have l5:=N5.ge g;have ak:=N5.y;have g:=g.trans N5.g;have aa:=aa.A (N5.g);replace E:=E.new N5;refine FH Fm J J J E.J ?_;intro ao ac _ BS;replace E:=E.s0 ac BS;have g:=BJ g ac O;have aa:=aa.C ac (fun k hk _ he=>by injection he with he;have hk:k<ad.heap.size:=hk;omega);refine Bj J (Bj J (Ai (Al (Am (Am (Au (Ap J (MH J J (Ai (Al (Cv J (fun h1=>?_) (fun h1=>?_))))))))))))
 ·exact absurd h1 BT
  done
 (try simp only [BH] at h1);refine CJ (Al (Am (Au (Ct A3 J J E.J.row (EB J (BF X5 BX (Cn J CI) J) (aB T _ _ _ [b2,b5] aa hc ((hL.A g).a2) (E.Q Br) g.size) ?_)))));rintro am ap ⟨⟨au,aq,rfl,aj,ae⟩,ag⟩;refine Ev ag fun g=>?_;replace E:=E.A ag;refine FJ J J (FJ J J (FJ J J (FH Fm J J J E.U ?_)));intro ar ab _ BS;replace E:=E.s1 ab BS;have g:=BJ g ab O;have ae:=ae.C ab Ch;refine Bj J (Bj J (Ai (Al (Dl (IZ (rs:=[.cell 2 26,.tmp 3,.tmp 4]) (vs:=[_,_,_]) J J (GJ J A3 J (E.U.row) (Ij J (Ij J (GD)))) J ?_)))));exact ⟨⟨_,rfl,BO rfl (ae.W aj)⟩,g⟩
end Go.Rk
