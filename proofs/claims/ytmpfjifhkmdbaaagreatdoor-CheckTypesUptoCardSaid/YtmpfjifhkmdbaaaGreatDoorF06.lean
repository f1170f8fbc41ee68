/- Merged texts. Conditions: each text's own. -/
import Derived.Test.YtmpfjifhkmdbaaaGreatDoorF02
import Derived.Test.YtmpfjifhkmdbaaaGreatDoorF05
import Derived.RecoverIn
import Derived.Test.YtmpfjifhkmdbaaaGreatDoorF03
set_option linter.unusedSimpArgs false
set_option linter.unusedVariables false
set_option maxHeartbeats 16000000
set_option maxRecDepth 100000
open Bool renaming or_eq_false_iff→Aja,noConfusion→Ala,and_eq_true→Ama,false_or→Ana,and_eq_true_iff→Aqa,or_eq_true_iff→Aua
open Go renaming World→Aa,TypeId→Ba,PanicEntry→Da,Program→Ea,Value→Fa
open Go.Value renaming slice→Ga
open Int renaming toNat_natCast→Asa
open List renaming mem_cons→Ada,length_append→Aea,forall_mem_cons→Afa,mem_cons_of_mem→Aha,take_of_length_le→Aoa,getElem?_eq_getElem→Apa,length_take→Ara,length_singleton→Ata,take_succ_eq_append_getElem→Ava,all_eq_true→Awa,not_mem_nil→Axa,length_cons→Aya,getElem?_eq_none→Bba,mem_of_getElem?→Bca,mem_cons_self→Bea,forall_mem_nil→Bfa,getD_eq_getElem?_getD→Bga
open Nat renaming lt_of_lt_of_le→Aaa,le_refl→Aba,beq→Aca,le_trans→Aga,zero_le→Aia,eq_of_beq_eq_true→Aka,zero_add→Aza,eq_zero_or_pos→Baa,mul_le_mul_right→Bda
namespace Go.Proofs
end Go.Proofs
namespace Go.Rk
open Go.Proofs
open Go Go.RowKit
def GV(V:Nat→Prop)(w w':Aa):Prop:=GB V w w'
section
variable {V:Nat→Prop} {w w' w0:Aa}
theorem GV.refl(V:Nat→Prop)(w:Aa):GV V w w:=GB.refl V w
theorem GV.trans(h:GV V w0 w)(k:GV V w w'):GV V w0 w':=GB.trans h k
theorem GV.size(h:GV V w w'):w.heap.size≤w'.heap.size:=GB.size h
theorem GV.of_g(h:G w w'):GV V w w':=GB.of_g h
theorem Zfb{b:Nat}(h:GV V w0 w)(hg:w.grownBy w' (some b))(hb:w0.heap.size≤b):GV V w0 w':=Zue h hg (.inr hb)
theorem Vod{b:Nat}(h:GV V w0 w)(hg:w.grownBy w' (some b))(hb:V b):GV V w0 w':=Zue h hg (.inl hb)
end
def EnV(ms mg mn mf k:Nat):Prop:=k=ms∨k=mg∨k=mn∨k=mf
theorem Obk.keepM{w w':Aa}{L:List (Nat×Ba×List Fa)}{m:Nat}{es:List (List UInt8×Fa)}(E:Obk w L)(hM:MapS w m es)(hg:w.grownBy w' (some m)):Obk w' L:=⟨E.1,Wca E.2 fun b e l _ h=>h.keep hg (Wj (hM.nblk h).symm)⟩
theorem Ypf{B:Nat→Prop}{w0 w w':Aa}{row:Option Nat}(h:GV B w0 w)(hg:w.grownBy w' row)(hr:∀ k,row=some k→B k∨w0.heap.size≤k):GV B w0 w' :=
 ⟨hg.os.trans h.os,hg.tape.trans h.tape,hg.output.trans h.output,Aga h.size hg.size,fun k hk hn=>(hg.block k (Aaa hk h.size) (fun e=>(hr k e.symm).elim hn O)).trans (h.block k hk hn)⟩
theorem LaidW.keepr{n0:Nat}{w w':Aa}{row:Option Nat}(h:LaidW n0 w)(hg:w.grownBy w' row)(hr:∀ k,row=some k→n0≤k):LaidW n0 w' :=
 h.below ⟨hg.os,hg.tape,hg.output,hg.size,fun k hk=>hg.block k (Aaa hk h.hn) fun e=>by have:=hr k e.symm;omega⟩
theorem LaidW.grow{n0:Nat}{w w':Aa}(h:LaidW n0 w)(g:G w w'):LaidW n0 w':=h.keepr (row:=none) (g.only _) fun k e=>by cases e
theorem Yqf{n:Nat}{σ:List Ent}{c:Prop}{wb:Aa}{ty m:Nat}{x y:Operand}{F:Nd}{i:Nat}(h:MapS wb m (allK (F.kids.take i)))(hx:Ev n σ c x (.map (some m)))(hy:Ev n σ c y (Str (Zb F i).text)) :
 Rd PP n σ c wb (.lookup 51 x y false) ty (.bool (dupAt F i)):=by
 have k:=Vyc (ty:=ty) Uva Vad Zjd h hx hy;rw [Wre] at k;exact k
theorem Zjc{F:Nd}{i:Nat}(h:∀ j,j<i→dupAt F j=false)(k:dupAt F i=false):∀ j,j<i+1→dupAt F j=false:=fun j hj=>by
 by_cases e:j=i;rw [e];exact k;exact h j O
theorem Ymb(d:Nd):(parT d).length=(Zb d 0).kids.length:=List.length_map ..
theorem Jnc{d:Nd}{j:Nat}(h:j<(Zb d 0).kids.length):((parT d).take (j+1)).flatMap tyCells=((parT d).take j).flatMap tyCells++tyCells (ofF (Zb (Zb (Zb d 0) j) 0)).1:=by
 have hl:j<(parT d).length:=by rw [Ymb];exact h
 have e:(parT d)[j]=(ofF (Zb (Zb (Zb d 0) j) 0)).1:=by
  rw [Wc (t:=Zb d 0) h];exact List.getElem_map ..
 rw [Ava hl,List.flatMap_append,e];simp
def EnBad(V:Nat→Prop)(F:Nd)(w:Aa)(ch:List Da)(w':Aa):Prop:=ch=[failE (namA F rs0 F.kids.length).ea (namA F rs0 F.kids.length).ee]∧(namA F rs0 F.kids.length).ee≠0∧GV V w w'
theorem Ysg{V:Nat→Prop}{F:Nd}{w w1 w':Aa}{i:Nat}{ch:List Da}(hi:i<F.kids.length)(h0:∀ j,j<i→dupAt F j=false)(g:GV V w w1)(hz:(!dupAt F i)=false∧ch=[failE (Zb F i).pos 6]∧G w1 w'):EnBad V F w ch w':=by
 obtain ⟨h1,h2,h3⟩:=hz;obtain ⟨e1,e2⟩:=Uxf (S:=rs0) rfl hi h0 (by simpa using h1);exact ⟨by rw [e1,e2];exact h2,by rw [e1];decide,g.trans (GV.of_g h3)⟩
theorem Vee{F:Nd}{n0 b:Nat}{fv:Fa}{ms mg mn mf:Nat}{w:Aa}(hv:validB F=true)(hF:count F≤1000000)(hb:n0≤b)(hB0:Blk w b 59 (pcCells F fv ms mg mn mf (.slice none 0 0) (.slice none 0 0) (.slice none 0 0)))
    (hkw:Kd w (fun k=>k<n0) F.kids fv) (hL:LaidW n0 w) (s0:MapS w ms []) (g0:MapS w mg []) (m0:MapS w mn []) (f0:MapS w mf []) (ds:(ms≠mg∧ms≠mn∧ms≠mf)∧(mg≠mn∧mg≠mf)∧mn≠mf) (hm:n0≤ms∧n0≤mg∧n0≤mn∧n0≤mf) :
    RetP PP 29 #[.pointer (some ⟨b,0,none⟩)] w (fun r w'=>r = .tuple #[]∧(∀ j,j<F.kids.length→dupAt F j=false)∧(∃ m2 pv TB,EnT F w.heap.size b fv ms mg mn mf m2 pv TB F.kids.length w')∧GV (EnV ms mg mn mf) w w') (EnBad (EnV ms mg mn mf) F w):=by
  obtain ⟨p,c,rfl,_⟩:=id hkw
  obtain ⟨h1F,hpF⟩:=Vbb hv
  have hd:=Xbc h1F hpF
  have hkl:=Vv F
  have hk00:=hkw
  have hL0:=hL
  have hms:=s0.lt
  have hmg:=g0.lt
  have hmn:=m0.lt
  have hmf:=f0.lt
  have hnw:=hL.hn
  have g:=GV.refl (EnV ms mg mn mf) w
  refine Vz (m:=106) Tryz.func29 J J [(0,True,_)] (Za J (Zo _)) ?_
  refine AU ?_
  refine Qwa J ?_
  intro m2 w8 em2 g8 z8 hM8
  have g:=g.trans (GV.of_g g8)
  replace E:=Zla w8
  have hl2:w.heap.size≤m2:=by rw [em2];exact Aba _
  obtain ⟨pv,TB,h⟩:∃ pv TB,EnT F w.heap.size b (.slice p F.kids.length c) ms mg mn mf m2 pv TB 0 w8:=⟨fun _=>.slice none 0 0,[],hB0.grow g8,s0.grow g8,g0.grow g8,m0.grow g8,f0.grow g8,hM8,fun j hj=>absurd hj (by omega),fun j hj=>(by cases hj),⟨⟨ds.1.1,ds.1.2.1,ds.1.2.2,by omega⟩,⟨ds.2.1.1,ds.2.1.2,by omega⟩,⟨ds.2.2,by omega⟩,by omega⟩⟩
  have hL:=hL.grow g8
  have hk0:=hkw.grow g8
  refine AU ?_
  refine Ul (fun (i:Nat) u1=>(i≤F.kids.length∧(∀ j,j<i→dupAt F j=false)∧∃ pv TB,EnT F w.heap.size b (.slice p F.kids.length c) ms mg mn mf m2 pv TB i u1)∧GV (EnV ms mg mn mf) w u1) _ [(0,True,_),(2,True,_),(13,True,_),(14,True,_)] (fun (i:Nat)=>[(15,True,.int .i64 i)]) (fun (i:Nat)=>F.kids.length-i) (0) ⟨⟨Aia _,fun j hj=>absurd hj (by omega),pv,TB,h⟩,g⟩ (Xg _) (Za J (Za J (Za J (Za J (Za J (Zo _)))))) ?_
  rintro i u1 ⟨hI1,gl1⟩ _
  have g:=gl1
  obtain ⟨hi,hdu,pv,TB,h⟩:=hI1
  have hL:=hL0.below ⟨gl1.os,gl1.tape,gl1.output,gl1.size,fun k hk=>gl1.block k (by omega) (by unfold EnV;omega)⟩
  have hk0:=Vg hk00 (fun _ h _=>h) fun k hk hlt=>gl1.block k hlt (by unfold EnV;omega)
  refine IF (fun h1=>?_) fun h1=>?_
  · replace h1:i<F.kids.length:=by simp only [Wkg] at h1;omega
    obtain ⟨e0,pd,cd,hcellw,hkidw⟩:=Yy hk00 (i:=i) h1
    have hDp:=Uv hk00 (show 0<F.kids.length by omega)
    have hcell:=Zaa hcellw (gl1.block (pb p) (by omega) (by unfold EnV;omega))
    have hkid:=Vg hkidw (fun _ h _=>h) fun k hk hlt=>gl1.block k hlt (by unfold EnV;omega)
    have hm1:=Zdb h1
    have hcd:=Vo h1
    have hkl1:=Vv (Zb F i)
    have hpd:=(hd _ hm1).2
    refine AU ?_
    refine Xi J Zp J ?_
    intro b4 w4 N4
    have l4:=Wq N4 g.size
    have hp4:=h
    have g:=g.trans (GV.of_g (N4.g))
    have h:=h.grow (N4.g)
    have hL:=hL.grow (N4.g)
    have hk0:=hk0.grow (N4.g)
    have hkid:=hkid.grow (N4.g)
    have E:=(Zla _).new N4
    refine Yoa Xa J J J E.g0 ?_
    intro wS1 hgS1 _ BS
    have C4:=E.g0
    replace E:=E.s0 hgS1 BS
    have g:=Zfb g hgS1 (by omega)
    have h:=h.keep hgS1 C4 rfl
    have hL:=hL.keepr hgS1 (fun k e=>by injection e with e;omega)
    have hk0:=hk0.keep hgS1 (fun k hk _ e=>by injection e with e;omega)
    have hkid:=hkid.keep hgS1 (fun k hk _ e=>by injection e with e;omega)
    refine Ze (kq (Zn ?_))
    refine Ws [3,3,0,0,3,3,0,1] ?_
    refine AU ?_
    refine Ut J (Yqf h.hq (Zc J) (Zc J)) ?_
    refine AU ?_
    refine Y3 J Yj J J J (Vw _ _ _ _) ((fun ch w' hz=>Ysg h1 hdu g hz)) ?_
    rintro v26 w26 ⟨rfl,hq26,g26⟩
    refine ⟨fun _=>g26,?_⟩
    have g:=g.trans (GV.of_g (g26))
    replace E:=E.grow g26
    have h:=h.grow (g26)
    have hL:=hL.grow (g26)
    have hk0:=hk0.grow (g26)
    have hkid:=hkid.grow (g26)
    have hdi:dupAt F i=false:=by simpa using hq26
    refine AU ?_
    refine Vja J Uva Vad h.hq (Jmc hdi) (Zc J) (Zc J) Xh ?_
    intro wq hMq hgq hzq
    replace E:=E.keepM h.hq hgq
    have g:=Zfb g hgq (by omega)
    have hk0:=hk0.keep hgq (fun k hk _ e=>by injection e with e;omega)
    have hkid:=hkid.keep hgq (fun k hk _ e=>by injection e with e;omega)
    have hL:=hL.keepr hgq (fun k e=>by injection e with e;omega)
    have h:=h.uq hgq hMq
    refine IF (fun h2=>?_) fun h2=>?_
    · replace h2:(Zb F i).kind=2:=Wmg h2
      refine Xe [3,3,3,0,3,0,2] [true,true,true,true,true,true,true] [0,1,3,7,0,16,63] mix (by kernel_rfl) ?_
      have g:=g.trans (GV.of_g (G.drew _))
      replace E:=E.dr
      have h:=h.grow (G.drew _)
      refine AU ?_
      refine Vja J Uva Vad h.hs (Ylb hdi 2 _) (Zc J) (Zc J) Xh ?_
      intro ws hMs hgs hzs
      replace E:=E.keepM h.hs hgs
      have g:=Vod g hgs (by unfold EnV;omega)
      have h:=h.us hgs hMs
      refine AU ?_
      refine SK [15,0,2,13,14] ?_
      refine Ze (fun a ha=>?_)
      exact ⟨i+1,ha,⟨⟨by omega,Zjc hdu hdi,pv,TB,ent_2 h1 h2 h⟩,g⟩,trivial,by omega⟩
    replace h2:(Zb F i).kind≠2:=Wng h2
    refine IF (fun h3=>?_) fun h3=>?_
    · replace h3:(Zb F i).kind=6:=Wmg h3
      obtain ⟨hl6,ht6,_⟩:=pf6 h3 hpd
      have hkt:=Vv (Zb (Zb F i) 0)
      have hct:=Vo (t:=Zb F i) (i:=0) (by omega)
      refine AU ?_
      refine Xe [3,3,3,0,3,0,3,3,3,0,0,2] [true,true,true,true,true,true,true,true,true,true,true,true] [0,1,3,7,0,16,0,64,192,448,960,2047] mix (by kernel_rfl) ?_
      have g:=g.trans (GV.of_g (G.drew _))
      replace E:=E.dr
      have h:=h.grow (G.drew _)
      have hL:=hL.grow (G.drew _)
      have hkid:=hkid.grow (G.drew _)
      refine AU ?_
      refine Ut J (Yle Zef h.hg (Zc J)) (Vja J Uva Jqf h.hn (Ylb hdi 6 _) (Zc J) (Zc J) (Zc J) ?_)
      intro wn hMn hgn hzn
      rw [Wvb] at hMn
      replace E:=E.keepM h.hn hgn
      have g:=Vod g hgn (by unfold EnV;omega)
      have hkid:=hkid.keep hgn (fun k hk _ e=>by injection e with e;omega)
      have hL:=hL.keepr hgn (fun k e=>by injection e with e;omega)
      have h:=h.un hgn hMn
      refine AU ?_
      refine Xe [3,3,3,0,3,0,3,0,3,0,1,2] [true,true,true,true,true,true,true,true,true,true,true,true] [0,1,3,7,0,16,0,64,192,448,960,2047] mix (by kernel_rfl) ?_
      have g:=g.trans (GV.of_g (G.drew _))
      replace E:=E.dr
      have h:=h.grow (G.drew _)
      have hL:=hL.grow (G.drew _)
      have hkid:=hkid.grow (G.drew _)
      obtain ⟨e1,p1,c1,hc1,hk1⟩:=Yy hkid (i:=0) (by omega)
      refine AU ?_
      refine CP (Vsb (Zb (Zb F i) 0) _ _ _ hL.hL hL.hb hL.hT (by omega)) (fun w63 g63=>?_)
      have g:=g.trans (GV.of_g (g63))
      replace E:=E.grow g63
      have h:=h.grow (g63)
      refine Vja J Uva Zef h.hg (Ylb hdi 6 _) (Zc J) (Zc J) (Zc J) ?_
      intro wt hMt hgt hzt
      replace E:=E.keepM h.hg hgt
      have g:=Vod g hgt (by unfold EnV;omega)
      have h:=h.ug hgt hMt
      refine AU ?_
      refine SK [15,0,2,13,14] ?_
      refine Ze (fun a ha=>?_)
      exact ⟨i+1,ha,⟨⟨by omega,Zjc hdu hdi,pv,TB,ent_6 h1 h3 h⟩,g⟩,trivial,by omega⟩
    replace h3:(Zb F i).kind≠6:=Wng h3
    refine IF (fun h4=>?_) fun h4=>?_
    · replace h4:(Zb F i).kind=4:=Wmg h4
      obtain ⟨hl4,⟨hk5,hpp⟩,ht1,_⟩:=pf4 h4 hpd
      have hkt:=Vv (Zb (Zb F i) 1)
      have hct:=Vo (t:=Zb F i) (i:=1) (by omega)
      have hkp:=Vv (Zb (Zb F i) 0)
      have hcp:=Vo (t:=Zb F i) (i:=0) (by omega)
      obtain ⟨e1,p1,c1,hc1,hk1⟩:=Yy hkid (i:=1) (by omega)
      obtain ⟨e2,p2,c2,hc2w,hk2w⟩:=Yy hkidw (i:=0) (by omega)
      have hDd:=Uv hkidw (show 0<(Zb F i).kids.length by omega)
      refine AU ?_
      refine Yr (rowR none) [3,3,3,0,0,3,0,3,0,1,3,1,2] [0,1,3,7,15,0,32,96,224,511,1023,0,4095] mix (by kernel_rfl) [0,1,2,3,4,5,6,7,8,9,10,11,12] J ?_
      have g:=g.trans (GV.of_g (G.drew _))
      replace E:=E.dr
      have h:=h.grow (G.drew _)
      have hL:=hL.grow (G.drew _)
      have hk0:=hk0.grow (G.drew _)
      have hkid:=hkid.grow (G.drew _)
      have hc1:=hc1.grow (G.drew _)
      refine Zt 0 J J (fun _=>Zm (Zc J)) (Zt 1 J J (fun _=>Xia (Zc J)) (Zt 2 J J (fun _=>Zg Jk (Zc J)) (Ye 3 J J (fun w1 hx=>Zw Vm (Zc J) (fun _=>(h.B.keep hx (fun h=>nomatch h)).at_ J)) (Ye 4 J J (fun w1 hx=>Yle Ybe (h.hf.keep hx (fun h=>nomatch h)) (Zc J)) (Zt 5 J J (fun _=>Zg Zf (Zc J)) (Ye 6 J J (fun w1 hx=>Zw Zi (Zc J) (fun _=>(E.g0.keep hx (fun h=>nomatch h)).at_ J)) (Zt 7 J J (fun _=>Xs Zd (Zc J) Xh (fun _=>by omega) (fun _=>e1)) (Ye 8 J J (fun w1 hx=>Zq Zj (Zc J) J (fun _=>hc1.kn hx)) (Wha 9 11 J J ?_ ?_)))))))))
      · refine Zh (L':=[10,11,12]) [3,3,3,0,0,3,0,3,0,1,3,1,2] rfl rfl rfl ?_
        refine CP (Vsb (Zb (Zb F i) 1) _ _ _ hL.hL hL.hb hL.hT (by omega)) (fun w75 g75=>?_)
        have g:=g.trans (GV.of_g (g75))
        replace E:=E.grow g75
        have h:=h.grow (g75)
        have hL:=hL.grow (g75)
        have hk0:=hk0.grow (g75)
        have hkid:=hkid.grow (g75)
        refine Zr ((g75).only _) ?_
        refine Zt 10 J J (fun _=>Uh [_,_,_,_] Qg J Wka (Xv (Zc J) (Xv (Zc J) (Va))) J) (Zk 11 J J ?_)
        refine Zh (L':=[12]) [3,3,3,0,0,3,0,3,0,1,3,1,2] J J J ?_
        refine Xi J Qg J ?_
        intro b5 w5 N5
        have l5:=Wq N5 g.size
        have hp5:=h
        have g:=g.trans (GV.of_g (N5.g))
        have h:=h.grow (N5.g)
        have hL:=hL.grow (N5.g)
        have hk0:=hk0.grow (N5.g)
        have hkid:=hkid.grow (N5.g)
        replace E:=E.new N5
        refine Zr ((N5.g).only _) ?_
        refine Zk 12 J J ?_
        refine Yb (L':=[]) [3,3,3,0,0,3,0,3,0,1,3,1,2] J J J J ?_
        refine Yoa Yla J J J E.g0 ?_
        intro wS2 hgS2 _ BS
        have C5:=E.g0
        replace E:=E.s0 hgS2 BS
        have g:=Zfb g hgS2 (by omega)
        have h:=h.keep hgS2 C5 rfl
        have hL:=hL.keepr hgS2 (fun k e=>by injection e with e;omega)
        have hk0:=hk0.keep hgS2 (fun k hk _ e=>by injection e with e;omega)
        have hkid:=hkid.keep hgS2 (fun k hk _ e=>by injection e with e;omega)
        refine Yl ?_
        refine Uea [(0,_,_),(2,_,_),(4,_,_),(5,_,_),(13,_,_),(14,_,_),(15,_,_)] (Za J (Za J (Za J (Za J (Za J (Za J (Za J (Zo _)))))))) (Qe (kq (Zn (Zn (Zu (?_))))))
        have hc2:=Zaa hc2w (g.block (pb pd) (by omega) (by unfold EnV;omega))
        have hlo:∀ j∈TB,j<b5:=fun j hj=>by have:=(hp5.tb j hj).2;have:=N5.at_;omega
        refine Xm Zf J (Xr Zi J (E.g1.at_ J) (Xsa Zd J J (by omega) e2 (Xm Zf J (Xr Zi J (hc2.one (i:=4) J) (Waa Zd J (Zx J (Ze (kq (Yz (?_))))))))))
        have hnd2:=E.1
        refine Ul (fun (j:Nat) u2=>(j≤(Zb (Zb F i) 0).kids.length∧TabE F w.heap.size b (.slice p F.kids.length c) ms mg mn mf m2 pv TB (numK 2 (fun _ _=>.bool true) (F.kids.take i) 0) (numK 6 (fun _ d=>tyV (ofF (Zb d 0)).1) (F.kids.take i) 0) (numK 6 (fun k _=>.int .i64 k) (F.kids.take i) 0) (numK 4 (fun k d=>fnV k (pv k) (resT d)) (F.kids.take i) 0) (allK (F.kids.take i)++[((Zb F i).text,.bool true)]) i u2∧∃ v,Blk u2 b5 61 [.int .i64 (cntK 4 (F.kids.take i)),v,.int .i64 (resT (Zb F i)).kind,Str (resT (Zb F i)).name]∧u2.ownsRow b5 24 2 v j (((parT (Zb F i)).take j).flatMap tyCells))∧GV (EnV ms mg mn mf) w u2) _ [(0,True,_),(2,True,_),(4,True,_),(5,True,_),(13,True,_),(14,True,_),(15,True,_),(81,True,_),(82,True,_)] (fun (j:Nat)=>[(83,True,.int .i64 j)]) (fun (j:Nat)=>(Zb (Zb F i) 0).kids.length-j) (0) ⟨⟨Aia _,h,_,(by have q:=E.g0;rw [Wvb] at q;exact q),Qt _ _ _ _⟩,g⟩ (Ya (blkE E.g1) (Xg _)) (Za J (Za J (Za J (Za J (Za J (Za J (Za J (Za J (Za J (Za J (Zo _))))))))))) ?_
        clear E
        rintro j u2 ⟨hI2,gl2⟩ ⟨B4,_⟩
        replace B4:Blk _ _ _ _:=B4
        have g:=gl2
        obtain ⟨hj,h,v,B5,ho⟩:=hI2
        obtain ⟨va,vc,rfl,_⟩:=Yja ho
        have hL:=hL0.below ⟨gl2.os,gl2.tape,gl2.output,gl2.size,fun k hk=>gl2.block k (by omega) (by unfold EnV;omega)⟩
        have hk0:=Vg hk00 (fun _ h _=>h) fun k hk hlt=>gl2.block k hlt (by unfold EnV;omega)
        have hkid:=Vg hkidw (fun _ h _=>h) fun k hk hlt=>gl2.block k hlt (by unfold EnV;omega)
        have hk2:=Vg hk2w (fun _ h _=>h) fun k hk hlt=>gl2.block k hlt (by unfold EnV;omega)
        have hlt5:=B5.lt
        have E:=Xoa (L:=[(b5,_,_),(b4,_,_)]) hnd2 ⟨B5,B4,trivial⟩ rfl
        refine IF (fun h5=>?_) fun h5=>?_
        · replace h5:j<(Zb (Zb F i) 0).kids.length:=by simp only [Wkg] at h5;omega
          obtain ⟨ef,pf,cf,hcf,hkf⟩:=Yy hk2 (i:=j) h5
          have hmf:=Zdb h5
          have hf3:=Wea (.inr hk5) hpp _ hmf
          have hfl:=(pf3 hf3.1 hf3.2).1
          have hcF:=Vo h5
          have hcG:=Vo (t:=Zb (Zb (Zb F i) 0) j) (i:=0) (by omega)
          have hkG:=Vv (Zb (Zb (Zb (Zb F i) 0) j) 0)
          refine AU ?_
          refine Xi J Zp J ?_
          intro b7 w7 N7
          have l7:=Wq N7 g.size
          have hp7:=h
          have g:=g.trans (GV.of_g (N7.g))
          have h:=h.grow (N7.g)
          have hL:=hL.grow (N7.g)
          have hkf:=hkf.grow (N7.g)
          have ho:=Xk ho (N7.g)
          replace E:=E.new N7
          refine Yoa Xa J J J E.g0 ?_
          intro wS3 hgS3 _ BS
          have C7:=E.g0
          replace E:=E.s0 hgS3 BS
          have g:=Zfb g hgS3 (by omega)
          have h:=h.keep hgS3 C7 rfl
          have hL:=hL.keepr hgS3 (fun k e=>by injection e with e;omega)
          have hkf:=hkf.keep hgS3 (fun k hk _ e=>by injection e with e;omega)
          have ho:=Yo ho hgS3 (.inr (Wl ho C7 rfl))
          refine AU ?_
          refine Xe [3,0,3,0,3,0,1,1,2,3,2] [true,true,true,true,true,true,true,true,true,true,true] [0,1,0,4,12,28,60,124,255,511,1023] mix (by kernel_rfl) ?_
          have g:=g.trans (GV.of_g (G.drew _))
          replace E:=E.dr
          have h:=h.grow (G.drew _)
          have hL:=hL.grow (G.drew _)
          have hkf:=hkf.grow (G.drew _)
          have ho:=Xk ho (G.drew _)
          obtain ⟨eg,pg,cg,hcg,hkg⟩:=Yy hkf (i:=0) (by omega)
          refine AU ?_
          refine CP (Vsb (Zb (Zb (Zb (Zb F i) 0) j) 0) _ _ _ hL.hL hL.hb hL.hT (by omega)) (fun w93 g93=>?_)
          have g:=g.trans (GV.of_g (g93))
          replace E:=E.grow g93
          have h:=h.grow (g93)
          have ho:=Xk ho (g93)
          refine Yf _ J Wt Xd (pqc J pq0) J J ?_
          intro b94 w94 N94
          have l94:=Wq N94 g.size
          have hp94:=h
          have B94:=N94.blk
          have g:=g.trans (GV.of_g (N94.g))
          replace E:=E.grow N94.g
          have h:=h.grow (N94.g)
          have ho:=Xk ho (N94.g)
          refine Qb J Wt Xd J (by decide) (Zc J) ho (Zc J) J N94.blk.row J (by simp only [maxLen];omega) (by omega) (by have:=E.g1.lt;omega) ?_
          intro a95 c95 w95 ho95 hg95 hat95
          replace E:=E.keepN ho hg95 rfl
          have g:=Ypf g hg95 (fun k e=>.inr (by have:=(ho.lt k e).1;omega))
          have h:=h.keepO ho hg95 hlo
          replace ho:=ho95
          refine AU ?_
          refine Xwb Qu J J J E.g1 ?_
          intro wS4 hgS4 _ BS
          have C5:=E.g1
          replace E:=E.s1 hgS4 BS
          have g:=Zfb g hgS4 (by omega)
          have h:=h.keep hgS4 C5 rfl
          have ho:=Yo ho hgS4 (.inr (Wl ho C5 rfl))
          refine AU ?_
          refine SK [83,0,2,4,5,13,14,15,81,82] ?_
          refine Ze (fun a ha=>?_)
          exact ⟨j+1,ha,⟨⟨by omega,h,_,E.g1,by rw [Jnc h5];exact ho⟩,g⟩,⟨E.g2,trivial⟩,by omega⟩
        replace h5:j=(Zb (Zb F i) 0).kids.length:=by simp only [Wlg] at h5;omega
        subst h5
        refine AU ?_
        refine Xe [3,3,3,0,3,0,0,2] [true,true,true,true,true,true,true,true] [0,1,3,7,0,16,0,127] mix (by kernel_rfl) ?_
        have g:=g.trans (GV.of_g (G.drew _))
        replace E:=E.dr
        have h:=h.grow (G.drew _)
        have ho:=Xk ho (G.drew _)
        refine AU ?_
        refine Vja J Uva Ybe h.hf (Ylb hdi 4 _) (Zc J) (Zc J) (Zc J) ?_
        intro wf hMf hgf hzf
        have ho:=Yo ho hgf (.inr (fun e=>by have:=(ho.lt _ e).1;omega))
        replace E:=E.keepM h.hf hgf
        have g:=Vod g hgf (by unfold EnV;omega)
        have h:=h.uf hgf hMf
        refine AU ?_
        refine SK [15,0,2,13,14] ?_
        refine Ze (fun a ha=>?_)
        exact ⟨i+1,ha,⟨⟨by omega,Zjc hdu hdi,Juf h1 h4 h (lo:=b5) (by have q:=ho;rw [Aoa (by rw [Ymb];exact Aba _)] at q;rw [Ymb];exact q) (by omega)⟩,g⟩,trivial,by omega⟩
      · refine Zh (L':=[9,10,12]) [3,3,3,0,0,3,0,3,0,1,3,1,2] rfl rfl rfl ?_
        refine Xi J Qg J ?_
        intro b5 w5 N5
        have l5:=Wq N5 g.size
        have hp5:=h
        have g:=g.trans (GV.of_g (N5.g))
        have h:=h.grow (N5.g)
        have hL:=hL.grow (N5.g)
        have hk0:=hk0.grow (N5.g)
        have hkid:=hkid.grow (N5.g)
        replace E:=E.new N5
        refine Zr ((N5.g).only _) ?_
        refine Zk 9 J J ?_
        refine Zh (L':=[10,12]) [3,3,3,0,0,3,0,3,0,1,3,1,2] J J J ?_
        refine CP (Vsb (Zb (Zb F i) 1) _ _ _ hL.hL hL.hb hL.hT (by omega)) (fun w75 g75=>?_)
        have g:=g.trans (GV.of_g (g75))
        replace E:=E.grow g75
        have h:=h.grow (g75)
        have hL:=hL.grow (g75)
        have hk0:=hk0.grow (g75)
        have hkid:=hkid.grow (g75)
        refine Zr ((g75).only _) ?_
        refine Zt 10 J J (fun _=>Uh [_,_,_,_] Qg J Wka (Xv (Zc J) (Xv (Zc J) (Va))) J) (Zk 12 J J ?_)
        refine Yb (L':=[]) [3,3,3,0,0,3,0,3,0,1,3,1,2] J J J J ?_
        refine Yoa Yla J J J E.g0 ?_
        intro wS2 hgS2 _ BS
        have C5:=E.g0
        replace E:=E.s0 hgS2 BS
        have g:=Zfb g hgS2 (by omega)
        have h:=h.keep hgS2 C5 rfl
        have hL:=hL.keepr hgS2 (fun k e=>by injection e with e;omega)
        have hk0:=hk0.keep hgS2 (fun k hk _ e=>by injection e with e;omega)
        have hkid:=hkid.keep hgS2 (fun k hk _ e=>by injection e with e;omega)
        refine Yl ?_
        refine Uea [(0,_,_),(2,_,_),(4,_,_),(5,_,_),(13,_,_),(14,_,_),(15,_,_)] (Za J (Za J (Za J (Za J (Za J (Za J (Za J (Zo _)))))))) (Qe (kq (Zn (Zn (Zu (?_))))))
        have hc2:=Zaa hc2w (g.block (pb pd) (by omega) (by unfold EnV;omega))
        have hlo:∀ j∈TB,j<b5:=fun j hj=>by have:=(hp5.tb j hj).2;have:=N5.at_;omega
        refine Xm Zf J (Xr Zi J (E.g1.at_ J) (Xsa Zd J J (by omega) e2 (Xm Zf J (Xr Zi J (hc2.one (i:=4) J) (Waa Zd J (Zx J (Ze (kq (Yz (?_))))))))))
        have hnd2:=E.1
        refine Ul (fun (j:Nat) u2=>(j≤(Zb (Zb F i) 0).kids.length∧TabE F w.heap.size b (.slice p F.kids.length c) ms mg mn mf m2 pv TB (numK 2 (fun _ _=>.bool true) (F.kids.take i) 0) (numK 6 (fun _ d=>tyV (ofF (Zb d 0)).1) (F.kids.take i) 0) (numK 6 (fun k _=>.int .i64 k) (F.kids.take i) 0) (numK 4 (fun k d=>fnV k (pv k) (resT d)) (F.kids.take i) 0) (allK (F.kids.take i)++[((Zb F i).text,.bool true)]) i u2∧∃ v,Blk u2 b5 61 [.int .i64 (cntK 4 (F.kids.take i)),v,.int .i64 (resT (Zb F i)).kind,Str (resT (Zb F i)).name]∧u2.ownsRow b5 24 2 v j (((parT (Zb F i)).take j).flatMap tyCells))∧GV (EnV ms mg mn mf) w u2) _ [(0,True,_),(2,True,_),(4,True,_),(5,True,_),(13,True,_),(14,True,_),(15,True,_),(81,True,_),(82,True,_)] (fun (j:Nat)=>[(83,True,.int .i64 j)]) (fun (j:Nat)=>(Zb (Zb F i) 0).kids.length-j) (0) ⟨⟨Aia _,h,_,(by have q:=E.g0;rw [Wvb] at q;exact q),Qt _ _ _ _⟩,g⟩ (Ya (blkE E.g1) (Xg _)) (Za J (Za J (Za J (Za J (Za J (Za J (Za J (Za J (Za J (Za J (Zo _))))))))))) ?_
        clear E
        rintro j u2 ⟨hI2,gl2⟩ ⟨B4,_⟩
        replace B4:Blk _ _ _ _:=B4
        have g:=gl2
        obtain ⟨hj,h,v,B5,ho⟩:=hI2
        obtain ⟨va,vc,rfl,_⟩:=Yja ho
        have hL:=hL0.below ⟨gl2.os,gl2.tape,gl2.output,gl2.size,fun k hk=>gl2.block k (by omega) (by unfold EnV;omega)⟩
        have hk0:=Vg hk00 (fun _ h _=>h) fun k hk hlt=>gl2.block k hlt (by unfold EnV;omega)
        have hkid:=Vg hkidw (fun _ h _=>h) fun k hk hlt=>gl2.block k hlt (by unfold EnV;omega)
        have hk2:=Vg hk2w (fun _ h _=>h) fun k hk hlt=>gl2.block k hlt (by unfold EnV;omega)
        have hlt5:=B5.lt
        have E:=Xoa (L:=[(b5,_,_),(b4,_,_)]) hnd2 ⟨B5,B4,trivial⟩ rfl
        refine IF (fun h5=>?_) fun h5=>?_
        · replace h5:j<(Zb (Zb F i) 0).kids.length:=by simp only [Wkg] at h5;omega
          obtain ⟨ef,pf,cf,hcf,hkf⟩:=Yy hk2 (i:=j) h5
          have hmf:=Zdb h5
          have hf3:=Wea (.inr hk5) hpp _ hmf
          have hfl:=(pf3 hf3.1 hf3.2).1
          have hcF:=Vo h5
          have hcG:=Vo (t:=Zb (Zb (Zb F i) 0) j) (i:=0) (by omega)
          have hkG:=Vv (Zb (Zb (Zb (Zb F i) 0) j) 0)
          refine AU ?_
          refine Xi J Zp J ?_
          intro b7 w7 N7
          have l7:=Wq N7 g.size
          have hp7:=h
          have g:=g.trans (GV.of_g (N7.g))
          have h:=h.grow (N7.g)
          have hL:=hL.grow (N7.g)
          have hkf:=hkf.grow (N7.g)
          have ho:=Xk ho (N7.g)
          replace E:=E.new N7
          refine Yoa Xa J J J E.g0 ?_
          intro wS3 hgS3 _ BS
          have C7:=E.g0
          replace E:=E.s0 hgS3 BS
          have g:=Zfb g hgS3 (by omega)
          have h:=h.keep hgS3 C7 rfl
          have hL:=hL.keepr hgS3 (fun k e=>by injection e with e;omega)
          have hkf:=hkf.keep hgS3 (fun k hk _ e=>by injection e with e;omega)
          have ho:=Yo ho hgS3 (.inr (Wl ho C7 rfl))
          refine AU ?_
          refine Xe [3,0,3,0,3,0,1,1,2,3,2] [true,true,true,true,true,true,true,true,true,true,true] [0,1,0,4,12,28,60,124,255,511,1023] mix (by kernel_rfl) ?_
          have g:=g.trans (GV.of_g (G.drew _))
          replace E:=E.dr
          have h:=h.grow (G.drew _)
          have hL:=hL.grow (G.drew _)
          have hkf:=hkf.grow (G.drew _)
          have ho:=Xk ho (G.drew _)
          obtain ⟨eg,pg,cg,hcg,hkg⟩:=Yy hkf (i:=0) (by omega)
          refine AU ?_
          refine CP (Vsb (Zb (Zb (Zb (Zb F i) 0) j) 0) _ _ _ hL.hL hL.hb hL.hT (by omega)) (fun w93 g93=>?_)
          have g:=g.trans (GV.of_g (g93))
          replace E:=E.grow g93
          have h:=h.grow (g93)
          have ho:=Xk ho (g93)
          refine Yf _ J Wt Xd (pqc J pq0) J J ?_
          intro b94 w94 N94
          have l94:=Wq N94 g.size
          have hp94:=h
          have B94:=N94.blk
          have g:=g.trans (GV.of_g (N94.g))
          replace E:=E.grow N94.g
          have h:=h.grow (N94.g)
          have ho:=Xk ho (N94.g)
          refine Qb J Wt Xd J (by decide) (Zc J) ho (Zc J) J N94.blk.row J (by simp only [maxLen];omega) (by omega) (by have:=E.g1.lt;omega) ?_
          intro a95 c95 w95 ho95 hg95 hat95
          replace E:=E.keepN ho hg95 rfl
          have g:=Ypf g hg95 (fun k e=>.inr (by have:=(ho.lt k e).1;omega))
          have h:=h.keepO ho hg95 hlo
          replace ho:=ho95
          refine AU ?_
          refine Xwb Qu J J J E.g1 ?_
          intro wS4 hgS4 _ BS
          have C5:=E.g1
          replace E:=E.s1 hgS4 BS
          have g:=Zfb g hgS4 (by omega)
          have h:=h.keep hgS4 C5 rfl
          have ho:=Yo ho hgS4 (.inr (Wl ho C5 rfl))
          refine AU ?_
          refine SK [83,0,2,4,5,13,14,15,81,82] ?_
          refine Ze (fun a ha=>?_)
          exact ⟨j+1,ha,⟨⟨by omega,h,_,E.g1,by rw [Jnc h5];exact ho⟩,g⟩,⟨E.g2,trivial⟩,by omega⟩
        replace h5:j=(Zb (Zb F i) 0).kids.length:=by simp only [Wlg] at h5;omega
        subst h5
        refine AU ?_
        refine Xe [3,3,3,0,3,0,0,2] [true,true,true,true,true,true,true,true] [0,1,3,7,0,16,0,127] mix (by kernel_rfl) ?_
        have g:=g.trans (GV.of_g (G.drew _))
        replace E:=E.dr
        have h:=h.grow (G.drew _)
        have ho:=Xk ho (G.drew _)
        refine AU ?_
        refine Vja J Uva Ybe h.hf (Ylb hdi 4 _) (Zc J) (Zc J) (Zc J) ?_
        intro wf hMf hgf hzf
        have ho:=Yo ho hgf (.inr (fun e=>by have:=(ho.lt _ e).1;omega))
        replace E:=E.keepM h.hf hgf
        have g:=Vod g hgf (by unfold EnV;omega)
        have h:=h.uf hgf hMf
        refine AU ?_
        refine SK [15,0,2,13,14] ?_
        refine Ze (fun a ha=>?_)
        exact ⟨i+1,ha,⟨⟨by omega,Zjc hdu hdi,Juf h1 h4 h (lo:=b5) (by have q:=ho;rw [Aoa (by rw [Ymb];exact Aba _)] at q;rw [Ymb];exact q) (by omega)⟩,g⟩,trivial,by omega⟩
    replace h4:(Zb F i).kind≠4:=Wng h4
    refine AU ?_
    refine SK [15,0,2,13,14] ?_
    refine Ze (fun a ha=>?_)
    exact absurd (hd _ hm1).1 (by rintro (q | q | q) <;> contradiction)
  replace h1:i=F.kids.length:=by simp only [Wlg] at h1;omega
  subst h1
  refine Jp J (Yia J ?_)
  exact ⟨rfl,hdu,⟨m2,pv,TB,h⟩,g⟩
structure PB (F:Nd) (n0 b:Nat) (TB X:List Nat) (fv:Fa) (ms mg mn mf:Nat) (pv:Nat→Fa) (sv cv rv:Fa) (w:Aa):Prop where
  B:Blk w b 59 (pcCells F fv ms mg mn mf sv cv rv)
  hb:n0≤b
  kF:Kd w (fun k=>k<n0) F.kids fv
  hF:count F≤1000000
  T:Tab F TB ms mg mn mf pv w
  L:LaidW n0 w
  tx:∀ j∈TB,j∈X
  xl:∀ j∈X,j<w.heap.size
  bx:b∉X
def PX(F:Nd)(n0 b:Nat)(TB X:List Nat)(w:Aa):Prop:=∃ fv ms mg mn mf pv sv cv rv,PB F n0 b TB X fv ms mg mn mf pv sv cv rv w
section
variable {F:Nd} {n0 b:Nat} {TB X:List Nat} {r0:Option (List Ty)} {S:CSt} {fv:Fa} {ms mg mn mf:Nat} {pv:Nat→Fa} {sv cv rv sv' cv' rv':Fa} {w w' w1 w2:Aa}
theorem PB.gt(h:PB F n0 b TB X fv ms mg mn mf pv sv cv rv w)(g:GT (mutC X) n0 w w')(hB':Blk w' b 59 (pcCells F fv ms mg mn mf sv' cv' rv')):PB F n0 b TB X fv ms mg mn mf pv sv' cv' rv' w':=by
 have hB:Below n0 w w':=⟨g.os,g.tape,g.output,g.size,fun k hk=>g.block k (Aaa hk h.L.hn) (.inl hk)⟩
 have m:∀ {k es},MapS w k es→MapS w' k es:=fun hm=>hm.same (g.block _ hm.lt (.inr fun ⟨cs,e,fr,h1,_⟩=>by
  obtain ⟨ms,c,hb,_⟩:=hm;rw [hb] at h1;injection h1 with h1;cases h1))
 refine ⟨hB',h.hb,Vg h.kF (fun _ h _=>h) (fun k hk _=>hB.block k hk),h.hF,⟨m h.T.hs,m h.T.hg,m h.T.hn,m h.T.hf,fun s hs=>(h.T.hp s hs).same fun k hk hlt _=>g.block k hlt (.inr fun ⟨cs,e,fr,h1,h2⟩=>?_)⟩,h.L.below hB,h.tx,fun j hj=>Aaa (h.xl j hj) g.size,h.bx⟩;unfold mutC at h2;rw [Wig (h.tx k hk)] at h2;simp at h2
theorem PB.grow(h:PB F n0 b TB X fv ms mg mn mf pv sv cv rv w)(g:G w w'):PB F n0 b TB X fv ms mg mn mf pv sv cv rv w':=h.gt (GT.of_g g) (h.B.grow g)
theorem PB.keep(h:PB F n0 b TB X fv ms mg mn mf pv sv cv rv w){j:Nat}{e:Ba}{l:List Fa}(hg:w.grownBy w' (some j))(hB:Blk w j e l)(hj:n0≤j)(he:typC e=false∨(j∈X∧j∉TB)):PB F n0 b TB X fv ms mg mn mf pv sv cv rv w':=by
 have hne:j≠b:=fun q=>by
  subst q;rcases he with he|he;have:=h.B;unfold Blk at hB this;rw [this] at hB;injection hB with hB;injection hB with _ hB;subst hB;exact Ala (show true=false from he);exact h.bx he.1
 have hk:∀ k,k<w.heap.size→k≠j→w'.heap[k]? = w.heap[k]?:=fun k hk hn=>hg.block k hk fun e=>hn (by injection e);have m:∀ {k es},MapS w k es→MapS w' k es:=fun hm=>hm.keep hg fun q=>hm.nblk hB (by injection q);have hL:Below n0 w w':=⟨hg.os,hg.tape,hg.output,hg.size,fun k hk=>hg.block k (Aaa hk h.L.hn) fun e=>by injection e with e;omega⟩;refine ⟨h.B.keep hg fun e=>hne (by injection e with e;exact e.symm),h.hb,h.kF.keep hg fun k hk _ e=>by injection e with e;omega,h.hF,⟨m h.T.hs,m h.T.hg,m h.T.hn,m h.T.hf,fun s hs=>(h.T.hp s hs).same fun k hkT hlt ⟨cs,fr,hc⟩=>hg.block k hlt fun e=>?_⟩,h.L.below hL,h.tx,fun i hi=>Aaa (h.xl i hi) hg.size,h.bx⟩;injection e with e;subst e;rcases he with he|he;unfold Blk at hB;rw [hc] at hB;injection hB with hB;injection hB with _ hB;subst hB;exact Ala (show true=false from he);exact he.2 hkT
theorem PB.px(h:PB F n0 b TB X fv ms mg mn mf pv sv cv rv w):PX F n0 b TB X w:=⟨_,_,_,_,_,_,_,_,_,h⟩
theorem PX.grow(h:PX F n0 b TB X w)(g:G w w'):PX F n0 b TB X w':=by obtain ⟨_,_,_,_,_,_,_,_,_,h⟩:=h;exact (h.grow g).px
theorem PX.keep(h:PX F n0 b TB X w){j:Nat}{e:Ba}{l:List Fa}(hg:w.grownBy w' (some j))(hB:Blk w j e l)(hj:n0≤j)(he:typC e=false∨(j∈X∧j∉TB)):PX F n0 b TB X w':=by obtain ⟨_,_,_,_,_,_,_,_,_,h⟩:=h;exact (h.keep hg hB hj he).px
theorem PX.laid(h:PX F n0 b TB X w):LaidW n0 w:=by obtain ⟨_,_,_,_,_,_,_,_,_,h⟩:=h;exact h.L
theorem PX.lt(h:PX F n0 b TB X w):n0≤b∧b<w.heap.size:=by obtain ⟨_,_,_,_,_,_,_,_,_,h⟩:=h;exact ⟨h.hb,h.B.lt⟩
theorem PX.tb(h:PX F n0 b TB X w):(∀ j∈TB,j∈X)∧∀ j∈X,j<w.heap.size:=by obtain ⟨_,_,_,_,_,_,_,_,_,h⟩:=h;exact ⟨h.tx,h.xl⟩
theorem PX.nx(h:PX F n0 b TB X w):b∉X:=by obtain ⟨_,_,_,_,_,_,_,_,_,h⟩:=h;exact h.bx
theorem PX.sub(h:PX F n0 b TB X w){Y:List Nat}(hT:∀ j∈TB,j∈Y)(hY:∀ j∈Y,j∈X):PX F n0 b TB Y w:=by
 obtain ⟨_,_,_,_,_,_,_,_,_,h⟩:=h;exact ⟨_,_,_,_,_,_,_,_,_,h.B,h.hb,h.kF,h.hF,h.T,h.L,hT,fun j hj=>h.xl j (hY j hj),fun hm=>h.bx (hY _ hm)⟩
theorem PC.px(h:PC F n0 b TB X r0 S w):PX F n0 b TB X w:=by
 obtain ⟨fv,ms,mg,mn,mf,pv,sv,cv,rv,vs,sc,h⟩:=h;exact ⟨_,_,_,_,_,_,_,_,_,h.B,h.hb,h.kF,h.hF,h.T,h.L,h.tx,h.xl,h.bx⟩
theorem PB.addX(h:PB F n0 b TB X fv ms mg mn mf pv sv cv rv w){j:Nat}{e:Ba}{l:List Fa}(N:New w w' j e l):PB F n0 b TB (j::X) fv ms mg mn mf pv sv cv rv w':=by
 have k:=h.grow N.g
 exact ⟨k.B,k.hb,k.kF,k.hF,k.T,k.L,fun i hi=>Aha _ (k.tx i hi),fun i hi=>by
  rcases Ada.1 hi with q|q;subst q;exact N.blk.lt;exact k.xl i q,fun hm=>by
  rcases Ada.1 hm with q|q;have:=h.B.lt;have:=N.at_;omega;exact h.bx q⟩
end
def BadD(n0:Nat)(X:List Nat)(T:CSt)(w:Aa)(ch:List Da)(w':Aa):Prop:=ch=[failE T.ea T.ee]∧T.ee≠0∧GT (mutC X) n0 w w'
theorem Joc{n0:Nat}{X:List Nat}{S T:CSt}{q:Bool}{a e:Int}{ch:List Da}{w0 w1 w:Aa}(he:S.ee=0)(hn:e≠0)(hE:Er (failU q a e S) T)(hz:q=false∧ch=[failE a e]∧G w w1)(g:GT (mutC X) n0 w0 w):BadD n0 X T w0 ch w1:=by
 obtain ⟨rfl,rfl,g1⟩:=hz;rw [Vla he] at hE;obtain ⟨h2,h1⟩:=hE hn;exact ⟨by rw [h1,h2],by rw [h2];exact hn,g.trans (GT.of_g g1)⟩
theorem Bad.d{n0 b L:Nat}{X X':List Nat}{T U:CSt}{ch:List Da}{w w0 w':Aa}(h:Bad n0 b X' L T w ch w')(hE:Er T U)(g:GT (mutC X) n0 w0 w)(hX:∀ j∈X,j∈X':=by intro j hj;simp [hj]):BadD n0 X U w0 ch w':=by
 obtain ⟨h1,h2,_,h5⟩:=h;obtain ⟨e1,e2⟩:=hE h2;exact ⟨by rw [h1,e1,e2],by rw [e1];exact h2,gtw g h5 hX⟩
theorem Zkc{F:Nd}{n0 b:Nat}{TB X:List Nat}{w:Aa}(t:Nd)(p:Option Addr)(c:Nat)(h:PX F n0 b TB X w):RetP PP 52 #[.pointer (some ⟨b,0,none⟩),ndV t (.slice p t.kids.length c)] w (fun r w'=>r = .tuple #[]∧(!decide (t.kind=8) || !decide ((findD F 2 t.text).2<0))=true∧G w w') (fun ch w'=>(!decide (t.kind=8) || !decide ((findD F 2 t.text).2<0))=false∧ch=[failE t.pos 5]∧G w w'):=by
 obtain ⟨fv,ms,mg,mn,mf,pv,sv,cv,rv,h⟩:=h;have g:=G.refl w;refine Vz (m:=19) Tryz.func52 J J [(0,True,_),(1,True,_)] (Za J (Za J (Zo _))) ?_;refine BM fun _ _ _ _ g E=>?_;refine AU ?_;refine Yr (rowR none) [3,0,3,3,3,3,3,0,3,0,0,3,3,0,1] [0,1,3,7,15,31,63,127,15,271,1023,2047,0,4096,16383] mix KR [0,1,2,3,4,5,6,7,8,9,10,11,12,13,14] J ?_;have g:=gdr g;replace E:=E.dr;refine Zt 0 J J (fun _=>Zg Wh (Zc J)) (Ye 1 J J (fun w1 hx=>Zw Yk (Zc J) (fun _=>(E.g0.keep hx (fun h=>nomatch h)).at_ J)) (Zt 2 J J (fun _=>Vsa (Zc J) Xh) (Zt 3 J J (fun _=>Zm (Zc J)) (Xka (L':=[5,6,7,8,9,10,11,12,13,14]) 4 J J J J J (fun _=>Zm (Zc J)) (Xka (L':=[6,7,8,9,10,11,12,13,14]) 5 J J J J J (fun _=>Xia (Zz J id)) (Xka (L':=[7,8,9,10,11,12,13,14]) 6 J J J J J (fun _=>Zg Zva (Zz J id)) (Ufa (L':=[8,9,10,11,12,13,14]) 7 J J J J J (fun w1 hx=>Zw Zda (Zz J id) (fun _=>((h.B.grow g).keep hx (fun h=>nomatch h)).at_ J)) (Xka (L':=[9,10,11,12,13,14]) 8 J J J J J (fun _=>Zg Wx (Zc J)) (Ufa (L':=[10,11,12,13,14]) 9 J J J J J (fun w1 hx=>Zw Xb (Zz J id) (fun _=>(E.g0.keep hx (fun h=>nomatch h)).at_ J)) (Ufa (L':=[11,12,13,14]) 10 J J J J J (fun w1 hx=>Yuc ((h.T.hs.grow g).keep hx (fun h=>nomatch h)) (Zz J id) (Zz J id)) (Zt 11 J J (fun _=>Wb (Zc J) (Zz J id)) (Zt 12 J J (fun _=>Zg We (Zc J)) (Ye 13 J J (fun w1 hx=>Zw Yk (Zc J) (fun _=>(E.g0.keep hx (fun h=>nomatch h)).at_ J)) (Zk 14 J J ?_))))))))))))));refine Zh (L':=[]) [3,0,3,3,3,3,3,0,3,0,0,3,3,0,1] J J J ?_;refine Y3 J Yj J J J (Vw _ _ _ _) ((fun ch w' hz=>⟨hz.1,hz.2.1,g.trans hz.2.2⟩)) ?_;rintro v18 w18 ⟨rfl,hq,g18⟩;refine ⟨fun _=>g18,?_⟩
 have g:=g.trans g18;replace E:=E.grow g18;refine Zr ((g18).only _) ?_;refine TK [] ?_;refine Qe (Yia J ?_);exact ⟨rfl,hq,g⟩
theorem Vfe{F:Nd}{n0 b:Nat}{TB X:List Nat}{S:CSt}{fv:Fa}{ms mg mn mf:Nat}{pv:Nat→Fa}{cv:Fa}{w:Aa}(h:PB F n0 b TB X fv ms mg mn mf pv (.slice none 0 0) cv (.slice none 0 0) w)(co:w.ownsRow n0 3 1 cv 1 [.int .i64 0])(cx:∀ k,cv.ownBlock=some k→k∉X) :
 Ret PP 54 #[.pointer (some ⟨b,0,none⟩)] w fun r w'=>r = .tuple #[]∧PC F n0 b TB X none (funS0 S) w'∧GT (mutC X) n0 w w':=by
 have hnn:=h.L.hn;have so:w.ownsRow n0 82 1 (.slice none 0 0) 0 []:=Qt _ _ _ _;have g:=GT.refl (mutC X) n0 w;refine WK 11 [0] Tryz.func54 ?_;refine Zu (Zx J (Zx J (Un J (Xm Xf J (Xr Yt J (h.B.at_ J) (CM fun _ w7 N7 _ g E=>?_))))));have h:=h.grow (N7.g);have so:=Xk so (N7.g);have co:=Xk co (N7.g);refine Qb J Yx Yqa J Od (Zc J) so (Zc J) J N7.blk.row J Od Od (by have:=g.size;omega) ?_;intro a8 c8 w8 ho8 hg8 hat8;have B8:Blk w8 b 59 _:=h.B.keep hg8 (fun e=>Wl so h.B rfl e.symm);replace E:=Zla w8;refine AU ?_;refine Yc J Uf (Zc J) (Zc J) J B8 J J ?_;intro w11 hg11 hz11 B11;have g8:GT (mutC X) n0 w7 w8:=Zcc so rfl (fun k hk=>by cases hk) hg8;have g11:GT (mutC X) n0 w8 w11:=Qea B8 rfl h.hb h.bx hg11;have K:=h.gt (g8.trans g11) B11;have so11:=Yo ho8 hg11 (.inr (Wl ho8 B8 rfl));have co8:=Yo co hg8 (Xma co so rfl);have co11:=Yo co8 hg11 (.inr (Wl co8 B8 rfl));have ro11:w11.ownsRow n0 24 2 (.slice none 0 0) 0 []:=Qt _ _ _ _;have sr11:ScR 84 n0 w11 ([]++[.slice none 0 0]) ([]++[[]]):=ScR.push ⟨rfl,fun i v l h=>(by cases h),fun i j v u h=>(by cases h)⟩
 have k11:PK F n0 b TB X none (funS0 S) fv ms mg mn mf pv (.slice a8 (0+1) c8) cv (.slice none 0 0) [.slice none 0 0] [[]] w11:=⟨B11,K.hb,K.kF,K.hF,K.T,K.L,so11,sr11,rfl,rfl,fun i l hi v hv=>(by
  rcases Baa i with z|z;subst z;injection hi with hi;subst hi;cases hv;rw [Bba (by show 1≤_;omega)] at hi;cases hi),co11,ro11,fun l e=>(by cases e),K.tx,K.xl,K.bx,fun k hk hm=>(by
  rcases hat8 with q|q;rw [q] at hk;cases hk;rw [hk] at q;injection q with q;have:=h.xl k hm;omega),fun i v hv k hk=>(by
  rcases Baa i with z|z;subst z;injection hv with hv;subst hv;cases hk;rw [Bba (by show 1≤_;omega)] at hv;cases hv),cx,fun k hk=>(by cases hk),by show 1≤2000000;decide⟩
 have g:=g.trans (g8.trans g11);refine Ze (Yia J ?_);exact ⟨rfl,k11.pc,g⟩
section
variable {F n:Nd} {S S':CSt}
theorem dcl_2(h:n.kind=2):dclR F n S=(plainT n,strA F n S n.kids.length):=by unfold dclR;rw [h];rfl
theorem dcl_6(h:n.kind=6):dclR F n S=(plainT n,pointerS F (Zb n 0) S):=by unfold dclR;rw [h];rfl
theorem dcl_4(h:n.kind=4):dclR F n S=funR F n S:=by unfold dclR;rw [h];rfl
theorem Yyd(k:Nd){T:CSt}(h:Er S T):Er S (pointerS F k T):=by rw [Jd];exact h.failu _ _ _
theorem Jkd(k:Nd){T:CSt}(h:Er S T):Er S (localS F k T):=(Yyd k h).failu _ _ _
theorem Yzd(F n:Nd)(S:CSt)(i:Nat):∀ k,Er (strA F n S i) (strA F n S (i+k))
 | 0=>Er.refl _
 | k+1=>Yyd _ ((Yzd F n S i k).failu _ _ _)
theorem Yme{i:Nat}(hi:i<n.kids.length):Er (strA F n S (i+1)) (strA F n S n.kids.length):=by
 have k:=Yzd F n S (i+1) (n.kids.length-(i+1));rwa [show i+1+(n.kids.length-(i+1))=n.kids.length by omega] at k
theorem Uzf{i:Nat}(hi:i<n.kids.length)(h:strA F n S i=S):Er (failU (!dupAt n i) (Zb n i).pos 6 S) (strA F n S n.kids.length):=by
 have k:=Yme (F:=F) (S:=S) hi;have e:strA F n S (i+1)=pointerS F (Zb (Zb n i) 0) (failU (!dupAt n i) (Zb n i).pos 6 (strA F n S i)):=rfl;rw [e,h] at k;exact (Yyd _ (Er.refl _)).trans k
theorem Qaf{i:Nat}(hi:i<n.kids.length)(h:strA F n S i=S)(hd:dupAt n i=false):Er (pointerS F (Zb (Zb n i) 0) S) (strA F n S n.kids.length):=by
 have k:=Yme (F:=F) (S:=S) hi;have e:strA F n S (i+1)=pointerS F (Zb (Zb n i) 0) (failU (!dupAt n i) (Zb n i).pos 6 (strA F n S i)):=rfl;rw [e,h,hd] at k;exact k
theorem Yrf{i:Nat}(h:strA F n S i=S)(hd:dupAt n i=false)(hp:(!decide ((Zb (Zb n i) 0).kind=8) || !decide ((findD F 2 (Zb (Zb n i) 0).text).2<0))=true):strA F n S (i+1)=S:=by
 show pointerS F (Zb (Zb n i) 0) (failU (!dupAt n i) (Zb n i).pos 6 (strA F n S i))=S;rw [h,hd,Jd,hp];rfl
/-! functions -/
theorem Vcb{k:Nd}(he:S.ee=0)(h:localS F k S=S):(!decide (k.kind=8) || !decide ((findD F 2 k.text).2<0))=true∧Ql (ofF k).1=true:=by
 unfold localS at h;rw [Jd] at h;cases h1:(!decide (k.kind=8) || !decide ((findD F 2 k.text).2<0));rw [h1,Vla he] at h;cases h2:Ql (ofF k).1;rw [h2] at h;have h:=congrArg CSt.ee h;rw [he] at h;unfold failU failS at h;exact absurd h Os;rw [h2] at h;have h:=congrArg CSt.ee h;rw [he] at h;exact absurd h (by show ¬ (5:Int)=0;decide);rw [h1] at h;cases h2:Ql (ofF k).1;rw [h2] at h;have h:failU false k.pos 7 S=S:=h;rw [Vla he] at h;have h:=congrArg CSt.ee h;rw [he] at h;exact absurd h (by show ¬ (7:Int)=0;decide);exact ⟨rfl,rfl⟩
theorem Yne{k:Nd}(he:S.ee=0)(h:localS F k S=S)(T:CSt):localS F k T=T:=by
 obtain ⟨h1,h2⟩:=Vcb he h;unfold localS;rw [Jd,h1,h2];rfl
theorem Ysf{k:Nd}(he:S.ee=0)(he':S'.ee=0):Er (localS F k S) (localS F k S'):=by
 unfold localS;rw [Jd,Jd];intro hn;cases h1:(!decide (k.kind=8) || !decide ((findD F 2 k.text).2<0)) <;> cases h2:Ql (ofF k).1 <;> rw [h1,h2] at hn
 rw [Vla he,Vla he'];exact ⟨rfl,rfl⟩;rw [Vla he,Vla he'];exact ⟨rfl,rfl⟩;have e:∀ T:CSt,failU true k.pos 5 T=T:=fun _=>rfl;rw [e,e,Vla he,Vla he'];exact ⟨rfl,rfl⟩;exact absurd he hn
theorem Xad(p:Nd)(i:Nat):∀ k,Er (parA F p S i).2 (parA F p S (i+k)).2
 | 0=>Er.refl _
 | k+1=>Jkd _ ((Xad p i k).decl _ _ _)
theorem Ytf:Er (parA F (Zb n 0) (funS0 S) (Zb n 0).kids.length).2 (funR F n S).2:=by
 have h1:Er (parA F (Zb n 0) (funS0 S) (Zb n 0).kids.length).2 (funS1 F n S):=Er.refl _
 have h2:Er (funS1 F n S) (funS2 F n S):=by
  unfold funS2;cases decide ((Zb n 1).kind=9);exact Jkd (F:=F) (Zb n 1) (Er.refl (funS1 F n S));exact Er.refl _
 exact ((h1.trans h2).trans ((Qj F (Zb n 2)).sts _).e).failu _ _ _
theorem Yoe{i:Nat}(hi:i<(Zb n 0).kids.length):Er (parA F (Zb n 0) (funS0 S) (i+1)).2 (funR F n S).2:=by
 have k:=Xad (F:=F) (S:=funS0 S) (Zb n 0) (i+1) ((Zb n 0).kids.length-(i+1));rw [show i+1+((Zb n 0).kids.length-(i+1))=(Zb n 0).kids.length by omega] at k;exact k.trans Ytf
theorem Ype{i:Nat}(hi:i<(Zb n 0).kids.length):Er (declS (Zb (Zb n 0) i).text (ofF (Zb (Zb (Zb n 0) i) 0)).1 (Zb (Zb n 0) i).pos (parA F (Zb n 0) (funS0 S) i).2) (funR F n S).2 :=
 (Jkd _ (Er.refl _)).trans (Yoe hi)
theorem Qbf{i:Nat}(hi:i<(Zb n 0).kids.length)(he:(parA F (Zb n 0) (funS0 S) i).2.ee=0)(hd:dupV (parA F (Zb n 0) (funS0 S) i).2 (Zb (Zb n 0) i).text=false):Er (localS F (Zb (Zb (Zb n 0) i) 0) (parA F (Zb n 0) (funS0 S) i).2) (funR F n S).2:=by
 refine (Ysf he (S':=declS (Zb (Zb n 0) i).text (ofF (Zb (Zb (Zb n 0) i) 0)).1 (Zb (Zb n 0) i).pos (parA F (Zb n 0) (funS0 S) i).2) ?_).trans (Yoe hi);rw [Yud hd];exact he
theorem Yuf{i:Nat}(he:(parA F (Zb n 0) (funS0 S) i).2.ee=0)(hl:localS F (Zb (Zb (Zb n 0) i) 0) (parA F (Zb n 0) (funS0 S) i).2=(parA F (Zb n 0) (funS0 S) i).2) :
 parA F (Zb n 0) (funS0 S) (i+1)=((parA F (Zb n 0) (funS0 S) i).1++[.mk (Zb (Zb n 0) i).kind (Zb (Zb n 0) i).text (declN (parA F (Zb n 0) (funS0 S) i).2) (Zb (Zb n 0) i).pos ((Zb (Zb n 0) i).kids.map plainT) ty0 1 0],declS (Zb (Zb n 0) i).text (ofF (Zb (Zb (Zb n 0) i) 0)).1 (Zb (Zb n 0) i).pos (parA F (Zb n 0) (funS0 S) i).2):=by
 show (_,localS F (Zb (Zb (Zb n 0) i) 0) _)=_;rw [Yne he hl]
theorem Ytg(h9:(Zb n 1).kind≠9)(he:(parA F (Zb n 0) (funS0 S) (Zb n 0).kids.length).2.ee=0):Er (localS F (Zb n 1) (parA F (Zb n 0) (funS0 S) (Zb n 0).kids.length).2) (funR F n S).2:=by
 have h1:Er (localS F (Zb n 1) (parA F (Zb n 0) (funS0 S) (Zb n 0).kids.length).2) (localS F (Zb n 1) (funS1 F n S)):=Ysf he he
 have h2:Er (localS F (Zb n 1) (funS1 F n S)) (funS2 F n S):=by
  unfold funS2;rw [Whg h9];exact Er.refl _
 exact ((h1.trans h2).trans ((Qj F (Zb n 2)).sts _).e).failu _ _ _
theorem Vdb{k:Nd}(h:k.kind=9):(ofF k).1=ty0:=by
 unfold ofF;cases !Jsa k;rw [h];rfl;rfl
theorem Yqe(h:(Zb n 1).kind≠9→(parA F (Zb n 0) (funS0 S) (Zb n 0).kids.length).2.ee=0∧localS F (Zb n 1) (parA F (Zb n 0) (funS0 S) (Zb n 0).kids.length).2=(parA F (Zb n 0) (funS0 S) (Zb n 0).kids.length).2) :
 funS2 F n S = { (parA F (Zb n 0) (funS0 S) (Zb n 0).kids.length).2 with result:=(ofF (Zb n 1)).1 }:=by
 unfold funS2;cases h9:decide ((Zb n 1).kind=9);obtain ⟨h1,h2⟩:=h (Wng h9);rw [Wog,Yne h1 h2];rfl;rw [Wpg,Vdb (Wmg h9)];rfl
theorem Xbd(h:(Zb n 1).kind≠9→Ql (ofF (Zb n 1)).1=true):decide ((Zb n 1).kind=9)=tyEqB (ofF (Zb n 1)).1 ty0:=by
 cases h9:decide ((Zb n 1).kind=9);have h1:=h (Wng h9);cases h2:tyEqB (ofF (Zb n 1)).1 ty0;rfl;have e:(ofF (Zb n 1)).1=ty0:=(Yfb _ _).1 h2;rw [e] at h1;exact absurd h1 Od;rw [Vdb (Wmg h9)];rfl
theorem Usc(F p:Nd)(S:CSt):∀ i,CanV (parA F p (funS0 S) i).2
 | 0=>fun v hv=>by cases hv
 | i+1=>by
  have h1:=Usc F p S i;have h2:CanV (declS (Zb p i).text (ofF (Zb (Zb p i) 0)).1 (Zb p i).pos (parA F p (funS0 S) i).2):=Zbc _ _ h1 (Ync _);intro v hv;exact h2 v (by have:=(Wtb F (Zb (Zb p i) 0) (declS (Zb p i).text (ofF (Zb (Zb p i) 0)).1 (Zb p i).pos (parA F p (funS0 S) i).2)).vars;rw [← this];exact hv)
theorem Xcc(F p:Nd)(S:CSt)(i:Nat):(parA F p (funS0 S) i).2.level=0∧(parA F p (funS0 S) i).2.scope=0:=⟨(Zgc F p (funS0 S) i).level,(Zgc F p (funS0 S) i).scope⟩
end
theorem PB.keepM{F:Nd}{n0 b:Nat}{TB X:List Nat}{fv:Fa}{ms mg mn mf:Nat}{pv:Nat→Fa}{sv cv rv:Fa}{w w':Aa}(h:PB F n0 b TB X fv ms mg mn mf pv sv cv rv w){m:Nat}{es:List (List UInt8×Fa)}(hM:MapS w m es)(hg:w.grownBy w' (some m))(hn:m≠ms∧m≠mg∧m≠mn∧m≠mf)(hm:n0≤m):PB F n0 b TB X fv ms mg mn mf pv sv cv rv w':=by
 have hL:Below n0 w w':=⟨hg.os,hg.tape,hg.output,hg.size,fun k hk=>hg.block k (Aaa hk h.L.hn) fun e=>by injection e with e;omega⟩;exact ⟨h.B.keep hg (Wj (hM.nblk h.B).symm),h.hb,h.kF.keep hg (fun k hk _ e=>by injection e with e;omega),h.hF,⟨h.T.hs.keep hg (Wj hn.1.symm),h.T.hg.keep hg (Wj hn.2.1.symm),h.T.hn.keep hg (Wj hn.2.2.1.symm),h.T.hf.keep hg (Wj hn.2.2.2.symm),fun s hs=>(h.T.hp s hs).keepM hM hg⟩,h.L.below hL,h.tx,fun j hj=>Aaa (h.xl j hj) hg.size,h.bx⟩
theorem eqT0(y:Ty):(decide (y.kind=0)&&(decide (({ data:=y.name.toArray }:ByteArray).data.toList=({ data:=#[] }:ByteArray).data.toList)&&true))=tyEqB y ty0:=by
 first|rfl|(unfold tyEqB;rw [Bool.eq_iff_iff];simp only [Bool.and_true,Ama,Wkg];rfl)
theorem Jvf{F t:Nd}{S:CSt}(h:(Zb t 1).kind=9):Er (failU (true || endsL (Zb t 2).kids) t.pos 7 ((ckT F (Zb t 2)).sts (funS2 F t S)).2) (funR F t S).2:=by
 have e:(funR F t S).2=failU (decide ((Zb t 1).kind=9) || endsL (Zb t 2).kids) t.pos 7 ((ckT F (Zb t 2)).sts (funS2 F t S)).2:=rfl;rw [e,Wig h];exact Er.refl _
theorem Yvf{F t:Nd}(HF:FW F)(hk:t.kind=2∨t.kind=6∨t.kind=4)(hp:permF t=true)(hct:count t≤1000000){n0 b:Nat}{TB X:List Nat}{S:CSt}{w:Aa}{v:Fa}(h:PX F n0 b TB X w)(he:S.ee=0)(hkw:Kd w (fun k=>k<n0) t.kids v) :
 RetP PP 31 #[.pointer (some ⟨b,0,none⟩),ndV t v] w (fun r w'=>(dclR F t S).2.ee=0∧RetN (dclR F t S).1 w.heap.size r w'∧PX F n0 b TB X w'∧GT (mutC X) n0 w w') (BadD n0 X (dclR F t S).2 w):=by
 obtain ⟨p,c,rfl,_⟩:=id hkw;have hk0:=hkw;have hlt:=h.lt;have htb:=h.tb;have hbx:=h.nx;have htb2:∀ j∈TB,j<w.heap.size:=fun j hj=>htb.2 j (htb.1 j hj);have hkl:=Vv t;obtain ⟨fv,ms,mg,mn,mf,pv,sv,cv,rv,h⟩:=h;have hms:=h.T.hs.lt;have hmg:=h.T.hg.lt;have hmn:=h.T.hn.lt;have hmf:=h.T.hf.lt;have hnn:=h.L.hn;have g:=GT.refl (mutC X) n0 w;refine Vz (m:=181) Tryz.func31 J J [(0,True,_),(1,True,_)] (Za J (Za J (Zo _))) ?_;refine BM fun b3 _ ga _ g E=>?_;have hp3:=h;have nlt3:=ga.blk.lt;have nat3:=ga.at_;have h:=Ui h;have hk0:=Ui hk0;refine AN fun b4 _ ga _ g E=>?_;have hp4:=h;have nlt4:=ga.blk.lt;have nat4:=ga.at_;have h:=Ui h;have hk0:=Ui hk0;refine IF (fun h1=>?_) fun h1=>?_;replace h1:t.kind=2:=Wmg h1;have hf:=Wea (.inl h1) hp;have ed:=dcl_2 (F:=F) (S:=S) h1;refine AU ?_;refine Qwa J ?_;intro m2 w22 em2 g22 z22 hM;have hl2:w.heap.size≤m2:=by have:=g.size;omega
 have g:=g.trans (GT.of_g g22);replace E:=E.grow g22;have h:=h.grow g22;have hk0:=hk0.grow g22;refine AU ?_;have hnd1:=E.1;refine Ul (fun (i:Nat) u1=>(i≤t.kids.length∧strA F t S i=S∧PB F n0 b TB X fv ms mg mn mf pv sv cv rv u1∧MapS u1 m2 (allK (t.kids.take i)))∧GT (mutC X) n0 w u1) _ [(0,True,_),(3,True,_),(4,True,_),(5,True,_),(24,True,_),(25,True,_)] (fun (i:Nat)=>[(26,True,.int .i64 i)]) (fun (i:Nat)=>t.kids.length-i) (0) ⟨⟨Aia _,rfl,h,hM⟩,g⟩ (Ya (blkE E.g1) (Ya (blkE E.g0) (Xg _))) (Za J (Za J (Za J (Za J (Za J (Za J (Za J (Zo _)))))))) ?_;clear E;rintro i u1 ⟨hI1,gl1⟩ ⟨B3,B4,_⟩;replace B3:Blk _ _ _ _:=B3;replace B4:Blk _ _ _ _:=B4;have g:=gl1;obtain ⟨hi,hst,h,hM⟩:=hI1;have hk0:=hkw.gt gl1 (fun k h=>h);have E:=Xoa (L:=[(b4,_,_),(b3,_,_)]) hnd1 ⟨B4,B3,trivial⟩ rfl;refine IF (fun h2=>?_) fun h2=>?_;replace h2:i<t.kids.length:=by simp only [Wkg] at h2;omega
 obtain ⟨e0,p1,c1,hcell,hkid⟩:=Yy hk0 (i:=i) h2;have hf3:=hf _ (Zdb h2);have hfl:=(pf3 hf3.1 hf3.2).1;refine AN fun _ _ ga _ g E=>?_;have hp7:=h;have nlt7:=ga.blk.lt;have nat7:=ga.at_;have h:=Ui h;have hM:=Ui hM;have hkid:=Ui hkid;refine AS fun _ ga Ca g E=>?_;first|have h:=h.keep ga Ca O (.inl rfl)|have h:=h.keep ga Ca O (.inr ⟨by simp,fun hm=>by have:=htb2 _ hm;omega⟩)
 have hkid:=Ud hkid;have hM:=hM.keep ga (Wj (hM.nblk Ca));refine Ze (kq (Zn ?_));refine Ws [3,3,0,0,3,3,0,1] ?_;refine AU ?_;refine Ut J (Yqf (F:=t) hM (Zc J) (Zc J)) ?_;refine AU ?_;refine Y3 J Yj J J J (Vw _ _ _ _) ((fun ch w' hz=>Joc he Od (by rw [ed];exact Uzf h2 hst) hz g)) ?_;rintro _ _ ⟨rfl,hq37,ga⟩;refine RC fun g E=>?_;have h:=Uk h;have hM:=Uk hM;have hkid:=Uk hkid;have hdi:dupAt t i=false:=by simpa using hq37
 refine AU ?_;refine Vja J Uva Vad hM (Jmc hdi) (Zc J) (Zc J) Xh ?_;intro wm hM2 hgm hzm;replace E:=E.keepM hM hgm;have g:=Yg g hgm O;have hkid:=hkid.keep hgm (fun k hk _ e=>by injection e with e;omega);have h:=h.keepM hM hgm ⟨O,O,O,O⟩ O;replace hM:=hM2;refine AU ?_;obtain ⟨e1,p2,c2,hc2,_⟩:=Yy hkid (i:=0) O;refine AU ?_;refine Y2 J Jy J J (Zkc (Zb (Zb t i) 0) _ _ h.px) ((fun ch w' hz=>Joc he Od (by rw [ed,← Jd];exact Qaf h2 hst hdi) hz g)) ?_;rintro _ _ ⟨rfl,hq46,ga⟩;refine RC fun g E=>?_;have h:=Uk h;have hM:=Uk hM;refine AU ?_;refine SK [26,0,3,4,5,24,25] ?_;refine Ze (fun a ha=>?_);exact ⟨i+1,ha,⟨⟨h2,Yrf hst hdi hq46,h,by rw [Vub h2];exact hM⟩,g⟩,(Ya (blkE E.g2) (Ya (blkE E.g1) (Xg _))),O⟩;replace h2:i=t.kids.length:=by simp only [Wlg] at h2;omega
 subst h2;rw [hst] at ed;refine AU ?_;refine CL (Zra t _ _ _ [b3,b4] hk0 hct (E.ltm Ob) g.size) ?_;rintro _ _ ⟨⟨p49,c49,rfl,q49,k49⟩,ga⟩;refine RC fun g E=>?_;have h:=Uk h;refine AS fun _ ga Ca g E=>?_;first|have h:=h.keep ga Ca O (.inl rfl)|have h:=h.keep ga Ca O (.inr ⟨by simp,fun hm=>by have:=htb2 _ hm;omega⟩)
 have k49:=k49.keep ga Oi;refine RTN ?_;rw [ed];exact ⟨he,Zy (t:=plainT t) rfl (k49.kdN q49),h.px,g⟩;replace h1:t.kind≠2:=Wng h1;refine IF (fun h3=>?_) fun h3=>?_;replace h3:t.kind=6:=Wmg h3;obtain ⟨hl6,ht6,_⟩:=pf6 h3 hp;have ed:=dcl_6 (F:=F) (S:=S) h3;obtain ⟨e0,p1,c1,hcell,hkid⟩:=Yy hk0 (i:=0) O;refine AU ?_;refine Y2 J Jy J J (Zkc (Zb t 0) _ _ h.px) ((fun ch w' hz=>Joc he Od (by rw [ed,Jd];exact Er.refl _) hz g)) ?_;rintro _ _ ⟨rfl,hq57,ga⟩;refine RC fun g E=>?_;have h:=Uk h;have hk0:=Uk hk0;refine AU ?_;refine CL (Zra t _ _ _ [b3,b4] hk0 hct (E.ltm Ob) g.size) ?_;rintro _ _ ⟨⟨p59,c59,rfl,q59,k59⟩,ga⟩;refine RC fun g E=>?_;have h:=Uk h;refine AS fun _ ga Ca g E=>?_;first|have h:=h.keep ga Ca O (.inl rfl)|have h:=h.keep ga Ca O (.inr ⟨by simp,fun hm=>by have:=htb2 _ hm;omega⟩)
 have k59:=k59.keep ga Oi;refine RTN ?_;rw [ed,Jd,hq57];exact ⟨he,Zy (t:=plainT t) rfl (k59.kdN q59),h.px,g⟩;replace h3:t.kind≠6:=Wng h3;have h4k:t.kind=4:=(hk.resolve_left h1).resolve_left h3;have ed:=dcl_4 (F:=F) (S:=S) h4k;obtain ⟨hl3,⟨hk5,hp5⟩,ht1,hk10,hp10⟩:=pf4 h4k hp;have hc3:=cn3 hl3;have hb2:blockB (Zb t 2)=true:=by unfold blockB;rw [hk10,hp10];rfl
 have hS2:CxM 1000001 F 57 (Zb t 2) (ckT F (Zb t 2)).sts:=(Ydf HF _ (Zb t 2) (Aba _)).sts hb2;have hlq:=Vv (Zb t 0);have hl1:=Vv (Zb t 1);obtain ⟨e0,p0,c0,hcqw,hkqw⟩:=Yy hkw (i:=0) O;obtain ⟨_,p1,c1,hc1w,hk1w⟩:=Yy hkw (i:=1) O;obtain ⟨_,p2,c2,hc2w,hk2w⟩:=Yy hkw (i:=2) O;have hDp:pb p<n0:=Uv hkw (show 0<t.kids.length by omega);refine AU ?_;refine CL (Zqa t _ _ _) ?_;rintro _ _ ⟨rfl,ga⟩;refine RC fun g E=>?_;have h:=Uk h;refine AN fun b8 _ ga _ g E=>?_;have hp8:=h;have nlt8:=ga.blk.lt;have nat8:=ga.at_;have h:=Ui h;refine AS fun _ ga Ca g E=>?_;first|have h:=h.keep ga Ca O (.inl rfl)|have h:=h.keep ga Ca O (.inr ⟨by simp,fun hm=>by have:=htb2 _ hm;omega⟩)
 refine Ze (kq (Zn (Zu (Xm Zf J (Xr Zi J (E.g2.at_ J) (Xsa Zd J J O e0 (Vx Zj J J (hcqw.gt g hDp) (CL (Zqa (Zb t 0) _ _ _) ?_))))))));rintro _ _ ⟨rfl,ga⟩;refine RC fun g E=>?_;have h:=Uk h;refine AN fun b9 _ ga _ g E=>?_;have hp9:=h;have nlt9:=ga.blk.lt;have nat9:=ga.at_;have h:=Ui h;refine AS fun _ ga Ca g E=>?_;first|have h:=h.keep ga Ca O (.inl rfl)|have h:=h.keep ga Ca O (.inr ⟨by simp,fun hm=>by have:=htb2 _ hm;omega⟩)
 refine AU ?_;refine Yf _ J Yha Zvc (pqc J pq0) J J ?_;intro b70 w70 N70;have l70:=Wq N70 g.size;have hp70:=h;have nlt70:=N70.blk.lt;have nat70:=N70.at_;have B70:=N70.blk;have g:=gtg g N70.g;replace E:=E.grow N70.g;have h:=h.grow (N70.g);refine AU ?_;refine Yc J Vkb (Zc J) (Zc J) J h.B J J ?_;intro w72 hg72 hz72 B72;replace E:=E.keepT hg72 h.B rfl;have B70:=N70.blk;have B70:=B70.keep hg72 (Wj (Yka B70 h.B rfl));have g72:GT (mutC X) n0 _ w72:=Qea h.B rfl h.hb h.bx hg72;have g:=gtw g g72;have h:=h.gt g72 B72;refine AU ?_;refine Yc J Qu (Zc J) Xh J h.B J J ?_;intro w74 hg74 hz74 B74;replace E:=E.keepT hg74 h.B rfl;have B70:=B70.keep hg74 (Wj (Yka B70 h.B rfl));have g74:GT (mutC X) n0 _ w74:=Qea h.B rfl h.hb h.bx hg74;have g:=gtw g g74;have h:=h.gt g74 B74;refine AU ?_;refine Yc J Uf (Zc J) Xh J h.B J J ?_;intro w76 hg76 hz76 B76;replace E:=E.keepT hg76 h.B rfl;have B70:=B70.keep hg76 (Wj (Yka B70 h.B rfl));have g76:GT (mutC X) n0 _ w76:=Qea h.B rfl h.hb h.bx hg76;have g:=gtw g g76;have h:=h.gt g76 B76;refine Ze (kq (Zn (Zu (Zx J (CL (Vfe (S:=S) h (Vpb B70 O J Od) (fun k hk hm=>by have e:b70=k:=(by injection hk);have:=hp70.xl k hm;omega)) ?_)))));rintro v78 w78 ⟨rfl,h,g78⟩;refine ⟨nw1,?_⟩;have g:=gtw g g78;replace E:=E.gtx g78;refine Ze (kq (Zn (Zn (Zu (Xm Zf J (Xr Zi J (E.g3.at_ J) (Xsa Zd J J O e0 (Xm Zf J (Xr Zi J ((hcqw.gt g hDp).one (i:=4) J) (Waa Zd J (Zx J (Ze (kq (Yz (?_)))))))))))))));have hnd2:=E.1
 refine Ul (fun (i:Nat) u2=>(i≤(Zb t 0).kids.length∧(parA F (Zb t 0) (funS0 S) i).2.ee=0∧PC F n0 b TB X none (parA F (Zb t 0) (funS0 S) i).2 u2∧∃ s,Blk u2 b9 26 (ndCells (clnT (Zb t 0)) s)∧OwnN [b3,b4,b8,b9] w.heap.size u2 (parA F (Zb t 0) (funS0 S) i).1 s)∧GT (mutC X) n0 w u2) _ [(0,True,_),(3,True,_),(4,True,_),(8,True,_),(9,True,_),(60,True,_),(61,True,_),(62,True,_),(63,True,_),(64,True,_),(65,True,_),(66,True,_),(67,True,_),(68,True,_),(69,True,_),(70,True,_),(71,True,_),(72,True,_),(73,True,_),(74,True,_),(75,True,_),(76,True,_),(77,True,_),(79,True,_),(80,True,_),(81,True,_),(82,True,_),(83,True,_),(84,True,_)] (fun (i:Nat)=>[(85,True,.int .i64 i)]) (fun (i:Nat)=>(Zb t 0).kids.length-i) (0) ⟨⟨Aia _,he,h,_,E.g0,Jo _ _ _⟩,g⟩ (Ya (blkE E.g3) (Ya (blkE E.g2) (Ya (blkE E.g1) (Xg _)))) (Za J (Za J (Za J (Za J (Za J (Za J (Za J (Za J (Za J (Za J (Za J (Za J (Za J (Za J (Za J (Za J (Za J (Za J (Za J (Za J (Za J (Za J (Za J (Za J (Za J (Za J (Za J (Za J (Za J (Za J (Zo _))))))))))))))))))))))))))))))) ?_;clear E;rintro i u2 ⟨hI2,gl2⟩ ⟨B3,B4,B8,_⟩;replace B3:Blk _ _ _ _:=B3;replace B4:Blk _ _ _ _:=B4;replace B8:Blk _ _ _ _:=B8;have g:=gl2;obtain ⟨hi,hei,h,s,B9,hO⟩:=hI2;obtain ⟨sa,sc,rfl⟩:=hO.slice;have hlen:=Vkd F (Zb t 0) (funS0 S) i;have E:=Xoa (L:=[(b9,_,_),(b8,_,_),(b4,_,_),(b3,_,_)]) hnd2 ⟨B9,B8,B4,B3,trivial⟩ rfl;refine Zn (Zu (Znb J J (Ze (kq (Zn (Qk J (fun h4=>?_) (fun h4=>?_)))))));replace h4:i<(Zb t 0).kids.length:=by simp only [Wkg] at h4;omega
 obtain ⟨ef,pf,cf,hcfw,hkfw⟩:=Yy hkqw (i:=i) h4;have hDq:pb p0<n0:=Uv hkqw h4;have hf3:=Wea (.inr hk5) hp5 _ (Zdb h4);have hfl:=(pf3 hf3.1 hf3.2).1;have hcF:=Vo h4;have hcG:=Vo (t:=(Zb (Zb t 0) i)) (i:=0) O;have hkG:=Vv (Zb (Zb (Zb t 0) i) 0);have hbd:=Yjf F (Zb t 0) S i;have hps:=Xcc F (Zb t 0) S i;have hkf:=hkfw.gt g (fun k h=>h);have hOlt:=hO.lt;refine Yp (kq (Zn (Yz (Zn (Zu (Xsa Zd J J O ef (Vx Zj J J (hcfw.gt g hDq) (AN fun b11 _ ga _ g E=>?_))))))));have hp11:=h;have nlt11:=ga.blk.lt;have nat11:=ga.at_;have hO:=Uj hO;have h:=Ui h;have hkf:=Ui hkf;refine AS fun _ ga Ca g E=>?_;first|have h:=h.keep ga Ca O (.inl rfl)|have h:=h.keep ga Ca O (.inr ⟨by simp,fun hm=>by have:=htb2 _ hm;omega⟩)
 have hkf:=Ud hkf;have hO:=Ua hO;refine Ze (kq (Zn (Zn (Zu (?_)))));obtain ⟨fv2,ms2,mg2,mn2,mf2,pv2,sv2,cv2,rv2,vs,scl,h⟩:=h;obtain ⟨l,hl⟩:∃ l,scl[(parA F (Zb t 0) (funS0 S) i).2.scope]? = some l:=⟨_,Apa (by have:=h.sl;omega)⟩;obtain ⟨q,hq⟩:∃ q,vs[(parA F (Zb t 0) (funS0 S) i).2.scope]? = some q:=⟨_,Apa (by have:=h.sl;have:=h.sr.len;omega)⟩;obtain ⟨pa,pc,rfl,_,hat⟩:=Ysd h.so;obtain ⟨pi,ci,rfl,hci,_⟩:=Uhc (h.sr.row _ _ _ hq hl);have hvl:0<vs.length:=by have:=h.sl;have:=h.sr.len;omega
 have hll:l.length≤1000000:=by
  have hm:l∈scl:=Bca hl;have:=(List.sublist_flatten_of_mem hm).length_le;rw [h.fl] at this;have:=hbd.vl;omega
 refine Zx J (Un J (Xm Xf J (Xr Yt J (h.B.at_ J) (Zs J (fun _=>Xs Yx (Zc J) Xh (fun _=>O) (fun _=>(hat _ _ hq).1)) (Xr Vy J (by have q:=(hat _ _ hq).2;rw [hps.2] at q;exact q) (Waa Vn J (Zx J (Ze (kq (Yz (?_)))))))))));have hnd3:=E.1
 refine Ul (fun (j:Nat) u3=>(j≤l.length∧((l.take j).any fun v=>decide (v.name=(Zb (Zb t 0) i).text))=false∧PK F n0 b TB X none (parA F (Zb t 0) (funS0 S) i).2 fv2 ms2 mg2 mn2 mf2 pv2 (.slice pa vs.length pc) cv2 rv2 vs scl u3∧OwnN [b3,b4,b8,b9] w.heap.size u3 (parA F (Zb t 0) (funS0 S) i).1 (.slice sa (parA F (Zb t 0) (funS0 S) i).1.length sc))∧GT (mutC X) n0 w u3) _ [(0,True,_),(3,True,_),(4,True,_),(8,True,_),(9,True,_),(11,True,_),(60,True,_),(61,True,_),(62,True,_),(63,True,_),(64,True,_),(65,True,_),(66,True,_),(67,True,_),(68,True,_),(69,True,_),(70,True,_),(71,True,_),(72,True,_),(73,True,_),(74,True,_),(75,True,_),(76,True,_),(77,True,_),(79,True,_),(80,True,_),(81,True,_),(82,True,_),(83,True,_),(84,True,_),(85,True,_),(86,True,_),(87,True,_),(88,True,_),(89,True,_),(90,True,_),(91,True,_),(92,True,_),(93,True,_),(94,True,_),(95,True,_)] (fun (j:Nat)=>[(96,True,.int .i64 j)]) (fun (j:Nat)=>l.length-j) (0) ⟨⟨Aia _,rfl,h,hO.sub Oj⟩,g⟩ (Ya (blkE E.g4) (Ya (blkE E.g3) (Ya (blkE E.g2) (Ya (blkE E.g1) (Ya (blkE E.g0) (Xg _)))))) (Za J (Za J (Za J (Za J (Za J (Za J (Za J (Za J (Za J (Za J (Za J (Za J (Za J (Za J (Za J (Za J (Za J (Za J (Za J (Za J (Za J (Za J (Za J (Za J (Za J (Za J (Za J (Za J (Za J (Za J (Za J (Za J (Za J (Za J (Za J (Za J (Za J (Za J (Za J (Za J (Za J (Za J (Zo _))))))))))))))))))))))))))))))))))))))))))) ?_;clear E;rintro j u3 ⟨hI3,gl3⟩ ⟨B3,B4,B8,B9,B11,_⟩;replace B3:Blk _ _ _ _:=B3;replace B4:Blk _ _ _ _:=B4;replace B8:Blk _ _ _ _:=B8;replace B9:Blk _ _ _ _:=B9;replace B11:Blk _ _ _ _:=B11;have g:=gl3;clear h hat hO
 obtain ⟨hj,hno,h,hO⟩:=hI3;obtain ⟨pi',ci',e',_,hrow⟩:=Uhc (h.sr.row _ _ _ hq hl);injection e' with e1 _ e2;subst e1 e2;have hkf:=hkfw.gt gl3 (fun k h=>h);have E:=Xoa (L:=[(b11,_,_),(b9,_,_),(b8,_,_),(b4,_,_),(b3,_,_)]) hnd3 ⟨B11,B9,B8,B4,B3,trivial⟩ rfl;refine IF (fun h5=>?_) fun h5=>?_;replace h5:j<l.length:=by simp only [Wkg] at h5;omega
 obtain ⟨hpe,hcv⟩:=hrow j h5;have hst:((l.take (j+1)).any fun v=>decide (v.name=(Zb (Zb t 0) i).text))=decide (l[j].name=(Zb (Zb t 0) i).text):=by rw [Ava h5,List.any_append,hno,Ana];simp
 refine AN fun _ _ N13 _ g E=>?_;have hp13:=h;have nlt13:=N13.blk.lt;have nat13:=N13.at_;have hO:=hO.new N13;have h:=h.grow (N13.g);have h:=hp13.addX N13;refine AS fun _ ga Ca g E=>?_;first|have h:=h.keep ga Ca O (.inl rfl)|have h:=h.keep ga Ca O (.inr ⟨by simp,fun hm=>by have:=htb2 _ hm;omega⟩)
 have hO:=Ua hO;refine AU ?_;refine Y3 J Yj J J J (Vw _ _ _ _) ((fun ch w' hz=>Joc hei Od ((h.erd hl h5 (fun e=>by simpa using e) hz.1).trans (by rw [ed];exact Ype h4)) hz g)) ?_;rintro _ _ ⟨rfl,hq107,ga⟩;refine RC fun g E=>?_;have h:=Uk h;have hO:=Uk hO;refine AU ?_;refine SK [96,0,3,4,8,9,11,60,61,62,63,64,65,66,67,68,69,70,71,72,73,74,75,76,77,79,80,81,82,83,84,85,86,87,88,89,90,91,92,93,94,95] ?_;refine Ze (fun a ha=>?_);exact ⟨j+1,ha,⟨⟨h5,by rw [hst];simpa using hq107,h.sub htb.1 (fun j hj=>Aha _ hj),hO.sub Oj⟩,g⟩,(Ya (blkE E.g5) (Ya (blkE E.g4) (Ya (blkE E.g3) (Ya (blkE E.g2) (Ya (blkE E.g1) (Xg _)))))),O⟩;replace h5:j=l.length:=by simp only [Wlg] at h5;omega
 subst h5;rw [List.take_length] at hno;have hdp:dupV (parA F (Zb t 0) (funS0 S) i).2 (Zb (Zb t 0) i).text=false:=by rw [h.dup hl];exact hno
 replace h:=h.pc;have hOlt:=hO.lt;refine AU ?_;obtain ⟨eg,pg,cg,hcg,hkg⟩:=Yy hkf (i:=0) O;refine AU ?_;refine Y2 J Zta J J (Yvc (Zb (Zb (Zb t 0) i) 0) _ _ h hei O) ((fun ch w' hz=>hz.d (by rw [ed];exact Qbf h4 hei hdp) g)) ?_;rintro _ _ ⟨rfl,hloc,ga⟩;refine RC fun g E=>?_;have h:=Uk h;have hkf:=Uk hkf;have hO:=Uk hO;refine AN fun b14 _ N14 _ g E=>?_;have hp14:=h;have nlt14:=N14.blk.lt;have nat14:=N14.at_;have hO:=hO.new N14;have h:=h.grow (N14.g);have hkf:=hkf.grow (N14.g);have h:=hp14.addX N14;refine AS fun _ ga Ca g E=>?_;first|have h:=h.keep ga Ca O (.inl rfl)|have h:=h.keep ga Ca O (.inr ⟨by simp,fun hm=>by have:=htb2 _ hm;omega⟩)
 have hkf:=Ud hkf;have hO:=Ua hO;refine AU ?_;refine CL (Zqa (Zb (Zb t 0) i) _ _ _) ?_;rintro _ _ ⟨rfl,ga⟩;refine RC fun g E=>?_;have h:=Uk h;have hkf:=Uk hkf;have hO:=Uk hO;refine AN fun b15 _ ga _ g E=>?_;have hp15:=h;have nlt15:=ga.blk.lt;have nat15:=ga.at_;have hO:=Uj hO;have h:=Ui h;have hkf:=Ui hkf;refine AS fun _ ga Ca g E=>?_;first|have h:=h.keep ga Ca O (.inl rfl)|have h:=h.keep ga Ca O (.inr ⟨by simp,fun hm=>by have:=htb2 _ hm;omega⟩)
 have hkf:=Ud hkf;have hO:=Ua hO;refine AU ?_;obtain ⟨_,pg2,cg2,hcg2,hkg2⟩:=Yy hkf (i:=0) O;have hZ:∀ j∈[b3,b4,b8,b9,b11,b14,b15],j<_:=E.ltm Ob;have hOlt:=hO.lt;refine AU ?_;refine CL (Zra (Zb (Zb (Zb t 0) i) 0) _ _ _ [b3,b4,b8,b9,b11,b14,b15] hkg2 O hZ g.size) ?_;rintro v121 w121 ⟨⟨p121,c121,rfl,q121,k121⟩,g121⟩;refine ⟨fun _=>g121,?_⟩;have g:=gtg g g121;replace E:=E.grow g121;have h:=h.grow (g121);have hO:=hO.grow (g121);obtain ⟨lo1,hl1a,hl1b,hl1o,hl1c,k121⟩:∃ lo,lo≤w121.heap.size∧w.heap.size≤lo∧(∀ k,(Ga sa (parA F (Zb t 0) (funS0 S) i).1.length sc).ownBlock=some k→k<lo)∧(∀ j∈[b3,b4,b8,b9,b11,b14,b15],j<lo)∧KdX lo [b3,b4,b8,b9,b11,b14,b15] w121 (plainT (Zb (Zb (Zb t 0) i) 0)).kids (.slice p121 (plainT (Zb (Zb (Zb t 0) i) 0)).kids.length c121):=⟨_,g121.size,q121,hOlt,hZ,k121⟩;refine CN fun b122 _ ga _ g E=>?_;have hp122:=h;have nlt122:=ga.blk.lt;have nat122:=ga.at_;have hO:=Uj hO;have k121:=Uj k121;have h:=Ui h;have kr:KdX lo1 [b3,b4,b8,b9,b11,b14,b15] _ [plainT (Zb (Zb (Zb t 0) i) 0)] (.slice (some ⟨b122,0,none⟩) 1 1):=Wi (ks:=[plainT (Zb (Zb (Zb t 0) i) 0)]) ⟨⟨O,fun hm=>by have:=hl1c b122 hm;omega⟩,Xq E.g0⟩ E.g0.row (Ys (Kd.mono k121 fun k hk _=>⟨⟨hk.1.1,fun hm=>hk.1.2 (Aha _ hm)⟩,hk.2⟩)) (Aba _);refine AS fun _ ga Ca g E=>?_;first|have h:=h.keep ga Ca O (.inl rfl)|have h:=h.keep ga Ca O (.inr ⟨by simp,fun hm=>by have:=htb2 _ hm;omega⟩)
 have hO:=Ua hO;have kr:=kr.keep ga Oi;refine AU ?_;refine Yr (gtC (b14::X) n0) [3,0,3,0,0,1,1,2,3,2] [0,1,0,0,0,28,60,127,255,511] mix KR [0,1,2,3,4,5,6,7,8,9] J ?_;have g:=gtd g;replace E:=E.dr;have h:=h.grow (G.drew _);have hO:=hO.grow (G.drew _);have kr:=kr.grow (G.drew _);refine Zt 0 J J (fun _=>Zg Zf (Zc J)) (Ye 1 J J (fun w1 hx=>Zw Zi (Zc J) (fun _=>(E.g4.gt hx J).at_ J)) (Zt 2 J J (fun _=>Zm (Zc J)) (Ye 3 J J (fun w1 hx=>Zq Zj (Zc J) J (fun _=>(E.g1.gt hx J).row)) (Ye 4 J J (fun w1 hx=>Zq Zl (Zc J) J (fun _=>(E.gtx hx).g2.row)) (Zk 5 J J ?_)))));refine Zh (L':=[6,7,8,9]) [3,0,3,0,0,2,1,2,3,2] J J J ?_;refine Y3 J Qq J J J (Zcb (clnT (Zb (Zb t 0) i)) _ _ _ (ofF (Zb (Zb (Zb t 0) i) 0)).1 h hei hbd O) ((fun ch w' hz=>hz.d (by rw [ed];exact Ype h4) g)) ?_;rintro v129 w129 ⟨hed,rfl,h,g129⟩;refine ⟨nw1,?_⟩;have g:=gtw g g129;replace E:=E.gtx g129;have hO:=hO.gt g129 rfl;have kr:=kr.gtc g129;refine Zr (g129) ?_;refine Zk 6 J J ?_;refine Zh (L':=[7,8,9]) [3,0,3,0,0,2,1,2,3,2] J J J ?_;refine CN fun _ _ N130 _ g E=>?_;have hp130:=h;have nlt130:=N130.blk.lt;have nat130:=N130.at_;have hO:=hO.new N130;have kr:=kr.new N130;have h:=h.grow (N130.g);refine Zr (GT.of_g (N130.g)) ?_;refine Zk 7 J J ?_;refine Yb (L':=[8,9]) [3,0,3,0,0,2,1,2,3,2] J J J J ?_;have hO:=hO.sub (Y:=[b3,b4,b8,b9]) Oj;have hOo:=hO
 refine Uu J Zd Zp J (Zc J) hO (Zc J) J E.g0.row (Vc (t:=.mk (Zb (Zb t 0) i).kind (Zb (Zb t 0) i).text (declN (parA F (Zb t 0) (funS0 S) i).2) (Zb (Zb t 0) i).pos [plainT (Zb (Zb (Zb t 0) i) 0)] ty0 1 0) kr O Oj (fun j hj=>.inr (hl1o j hj))) (by simp;omega) (by have:=g.size;omega) ⟨by have:=g.size;omega,by have q3:=E.g8.lt;have q4:=E.g7.lt;have q8:=E.g6.lt;have q9:=E.g5.lt;simp;omega⟩ ?_;intro a131 c131 w131 hO hg131;replace E:=E.sel [false,false,false,false,false,true,true,true,true];replace E:=E.keepX hg131 hOo.ne Ob;have g:=Wk g hg131 (fun k hk=>hOo.ge k hk);have h:=h.keepO hg131 hOo O;refine Yl ?_;refine Zt 8 J J (fun _=>Zg Zf (Zc J)) (Zk 9 J J ?_);refine Yb (L':=[]) [3,0,3,0,0,2,1,2,3,2] J J J J ?_;refine AS fun _ ga Ca g E=>?_;first|have h:=h.keep ga Ca O (.inl rfl)|have h:=h.keep ga Ca O (.inr ⟨by simp,fun hm=>by have:=htb2 _ hm;omega⟩)
 have hO:=Ua hO;refine Yl ?_;refine TK [0,3,4,8,9,11,14,15,60,61,62,63,64,65,66,67,68,69,70,71,72,73,74,75,76,77,79,80,81,82,83,84,85,86,87,88,89,90,91,92,93,94,95,96,97,109,110,111,112,113,114,115,116,117,118,119,120,121,122,123,124,125,126,127,128,129,130,131,132] ?_;refine AU ?_;refine SK [85,0,3,4,8,9,60,61,62,63,64,65,66,67,68,69,70,71,72,73,74,75,76,77,79,80,81,82,83,84] ?_;refine Ze (fun a ha=>?_);have en:=Yuf (n:=t) (S:=S) (i:=i) hei hloc;rw [show (Zb (Zb t 0) i).kids.map plainT=[plainT (Zb (Zb (Zb t 0) i) 0)] by rw [kids1 hfl];rfl] at en;exact ⟨i+1,ha,⟨⟨h4,by rw [en];exact hed,by rw [en];exact h.sub htb.1 (fun j hj=>Aha _ hj),_,E.g0,by rw [en];exact hO⟩,g⟩,(Ya (blkE E.g3) (Ya (blkE E.g2) (Ya (blkE E.g1) (Xg _)))),O⟩;replace h4:i=(Zb t 0).kids.length:=by simp only [Wlg] at h4;omega
 subst h4;refine AN fun b16 _ N16 _ g E=>?_;have hp16:=h;have nlt16:=N16.blk.lt;have nat16:=N16.at_;have hO:=hO.new N16;have h:=h.grow (N16.g);have h:=hp16.addX N16;refine Ze (kq (Zn (Zn (Zu (Xm Zf J (Xr Zi J (E.g4.at_ J) (Xsa Zd J J O e0 (Xm Wh J (Xr Yk J ((hc1w.gt g hDp).one (i:=0) J) (Uie J J (Ze (kq (Qk J (fun h6=>?_) (fun h6=>?_))))))))))))));replace h6:(Zb t 1).kind≠9:=by simpa using h6
 refine Zu (Zx J (Xm Zf J (Xr Zi J (E.g4.at_ J) (Xsa Zd J J O e0 (Vx Zj J J (hc1w.gt g hDp) (Y2 J Zta J J (Yvc (Zb t 1) _ _ h hei O) ((fun ch w' hz=>hz.d (by rw [ed];exact Ytg h6 hei) g)) ?_))))));rintro _ _ ⟨rfl,hloc,ga⟩;refine RC fun g E=>?_;have h:=Uk h;have hO:=Uk hO;refine AS fun _ ga Ca g E=>?_;first|have h:=h.keep ga Ca O (.inl rfl)|have h:=h.keep ga Ca O (.inr ⟨by simp,fun hm=>by have:=htb2 _ hm;omega⟩)
 have hO:=Ua hO;refine AU ?_;obtain ⟨fv3,ms3,mg3,mn3,mf3,pv3,sv3,cv3,rv3,vs3,sc3,h⟩:=h;have e2:funS2 F t S = { (parA F (Zb t 0) (funS0 S) (Zb t 0).kids.length).2 with result:=(ofF (Zb t 1)).1 }:=Yqe (by first|exact fun _=>⟨hei,hloc⟩|exact fun h9=>absurd h6 h9);refine AU ?_;refine Yf _ J Wt Xd (pqc J pq0) J J ?_;intro b148 w148 N148;have l148:=Wq N148 g.size;have hp148:=h;have nlt148:=N148.blk.lt;have nat148:=N148.at_;have hO:=hO.new N148;have B148:=N148.blk;have g:=gtg g N148.g;replace E:=E.grow N148.g;have h:=h.grow (N148.g);refine AU ?_;refine Yc J Qu (Zc J) (Zc J) J h.B J J ?_;intro w150 hg150 hz150 B150;replace E:=E.keepT hg150 h.B rfl;have B148:=N148.blk.keep hg150 (Wj (Yka N148.blk h.B rfl));have g150:GT (mutC (b16::X)) n0 _ w150:=Qea h.B rfl h.hb h.bx hg150;have g:=gtw g g150;have hO:=hO.gt g150 rfl;have ro3:w150.ownsRow n0 24 2 (.slice (some ⟨b148,0,none⟩) 1 1) 1 ([(ofF (Zb t 1)).1].flatMap tyCells):=by first|exact Vpb B148 O rfl Od|(rw [Vdb h6];exact Vpb B148 O rfl Od)
 have h:=(hp148.oth (q1:=some []) (S':={ (parA F (Zb t 0) (funS0 S) (Zb t 0).kids.length).2 with result:=(ofF (Zb t 1)).1 }) ((GT.of_g N148.g).trans g150) B150 (Yo h.so hg150 (.inr (Wl h.so h.B rfl))) (h.sr.keepb hg150 h.B rfl) (Yo h.co hg150 (.inr (Wl h.co h.B rfl))) ro3 (fun l e=>by injection e with e;subst e;exact (Xcc F (Zb t 0) S _).1.symm) (fun k hk=>.inl hk) (fun k hk=>.inr (by have e:b148=k:=(by injection hk);omega)) rfl rfl).pc;rw [← e2] at h;have he2:(funS2 F t S).ee=0:=by rw [e2];exact hei
 have hcan:CanV (funS2 F t S):=by rw [e2];exact Usc F (Zb t 0) S (Zb t 0).kids.length
 have hbd2:=Yke F t S;refine Ze (kq (Zn (Zu (Zx J (Xm Zf J (Xr Zi J (E.g4.at_ J) (Xsa Zd J J O e0 (Vx Zj J J (hc2w.gt g hDp) (Y2 J Up J J (CxM.to hS2 [b3,b4,b8,b9,b16] h he2 hcan (hk2w.gt g (fun k h=>h)) hbd2 O (E.ltm Ob) g.size) ((fun ch w' hz=>hz.d (by rw [ed];exact (Er.refl _).failu _ _ _) g)) ?_)))))))));rintro v156 w156 ⟨⟨p156,c156,rfl,q156,k156⟩,he156,h,g156⟩;refine ⟨nw1,?_⟩;have g:=gtw g g156;replace E:=E.gtx g156;have hO:=hO.gt g156 rfl;refine AN fun b17 _ ga l17 g E=>?_;have hp17:=h;have nlt17:=ga.blk.lt;have nat17:=ga.at_;have hO:=Uj hO;have k156:=Uj k156;have h:=Ui h;refine AS fun _ ga Ca g E=>?_;first|have h:=h.keep ga Ca O (.inl rfl)|have h:=h.keep ga Ca O (.inr ⟨by simp,fun hm=>by have:=htb2 _ hm;omega⟩)
 have hO:=Ua hO;have k156:=k156.keep ga Oi;refine AU ?_;skip;refine Xe [0,3,0,3,0,1,0,1,3,2] [true,true,true,true,true,true,false,true,true,true] [0,0,2,6,14,30,0,127,255,511] mix KR ?_;have g:=gtd g;replace E:=E.dr;have h:=h.grow (G.drew _);have hO:=hO.grow (G.drew _);have k156:=k156.grow (G.drew _);have EC:=E;refine Vx Zj J J E.g2.row (Xm Zf J (Xr Zi J (E.g5.at_ J) (Xsa Zd J J O e0 (Vx Zj J J (hc1w.gt g hDp) (CL (Zra (Zb t 1) _ _ _ [b3,b4,b8,b9,b16,b17] (hk1w.gt g (fun k h=>h)) O (E.ltm Ob) g.size) ?_)))));rintro _ _ ⟨⟨p162,c162,rfl,q162,k162⟩,ga⟩;refine RC fun g E=>?_;have h:=Uk h;have hO:=Uk hO;have k156:=Uk k156;refine Zrc J (Zq Zj (Zc J) J (fun _=>EC.g0.row)) (CN fun _ _ ga l164 g E=>?_);have hp164:=h;have nlt164:=ga.blk.lt;have nat164:=ga.at_;have hO:=Uj hO;have k156:=Uj k156;have k162:=Uj k162;have h:=Ui h;refine AS fun _ ga Ca g E=>?_;first|have h:=h.keep ga Ca O (.inl rfl)|have h:=h.keep ga Ca O (.inr ⟨by simp,fun hm=>by have:=htb2 _ hm;omega⟩)
 have hO:=Ua hO;have k156:=k156.keep ga Oi;have k162:=k162.keep ga Oi;refine AU ?_;refine Yr (rowR none) [0,3,3,3,3,0,3,3,0,1,3,3,0,1] [0,0,3,7,15,31,63,127,255,511,1023,0,2048,8191] mix KR [0,1,2,3,4,5,6,7,8,9,10,11,12,13] J ?_;have g:=gtd g;replace E:=E.dr;have h:=h.grow (G.drew _);have hO:=hO.grow (G.drew _);have k156:=k156.grow (G.drew _);have k162:=k162.grow (G.drew _);refine Ye 0 J J (fun w1 hx=>Zq Zl (Zc J) J (fun _=>(E.g2.keep hx (fun h=>nomatch h)).row)) (Zt 1 J J (fun _=>Uh [_,_] Xd J Vd (Va) J) (Zt 2 J J (fun _=>Qy Wf (Zc J) (Zc J) J) (Zt 3 J J (fun _=>Zm (Zc J)) (Xka (L':=[5,6,7,8,9,10,11,12,13]) 4 J J J J J (fun _=>Zg Zf (Zc J)) (Ufa (L':=[6,7,8,9,10,11,12,13]) 5 J J J J J (fun w1 hx=>Zw Zi (Zz J id) (fun _=>(E.g6.keep hx (fun h=>nomatch h)).at_ J)) (Xka (L':=[7,8,9,10,11,12,13]) 6 J J J J J (fun _=>Xs Zd (Zz J id) Xh (fun _=>O) (fun _=>e0)) (Xka (L':=[8,9,10,11,12,13]) 7 J J J J J (fun _=>Zg Zf (Zz J id)) (Ufa (L':=[9,10,11,12,13]) 8 J J J J J (fun w1 hx=>Zw Zi (Zz J id) (fun _=>((hc2w.gt g hDp).kn hx).one (i:=4) J)) (Zt 11 J J (fun _=>Zg We (Zc J)) (Ye 12 J J (fun w1 hx=>Zw Yk (Zc J) (fun _=>(E.g6.keep hx (fun h=>nomatch h)).at_ J)) (Zk 9 J J ?_)))))))))));refine Zh (L':=[10,13]) [0,3,3,3,3,0,3,3,0,1,3,3,0,1] J J J ?_;refine CG (fun hc=>Vld 1000001 _ _ _ _ (hk2w.gt g (fun k h=>h)) (sh10 hb2) (by have:=Zfc (Zb t 2);omega) (Aba _)) (fun w175 g175=>?_);have g:=gtg g g175;replace E:=E.grow g175;have h:=h.grow (g175);have hO:=hO.grow (g175)
 have k156:=k156.grow (g175);have k162:=k162.grow (g175);refine Zr ((g175).only _) ?_;refine Zt 10 J J (fun _=>Wb (Zc J) (Zz J id)) (Zk 13 J J ?_);refine Zh (L':=[]) [0,3,3,3,3,0,3,3,0,1,3,3,0,1] J J J ?_;refine Y3 J Yj J J J (Vw _ _ _ _) ((fun ch w' hz=>Joc he156 Od (by rw [ed];first|exact Jvf h6|(rw [eqT0,← Xbd (fun _=>(Vcb hei hloc).2)];exact Er.refl _)) hz g)) ?_;rintro v179 w179 ⟨rfl,hq179,g179⟩;refine ⟨fun _=>g179,?_⟩;have g:=gtg g g179;replace E:=E.grow g179;have h:=h.grow (g179);have hO:=hO.grow (g179);have k156:=k156.grow (g179);have k162:=k162.grow (g179);refine Zr ((g179).only _) ?_;refine TK [0,3,4,8,9,16,17,60,61,62,63,64,65,66,67,68,69,70,71,72,73,74,75,76,77,79,80,81,82,83,84,85,86,134,135,136,137,138,139,140,141,142,143,144,145,146,147,148,149,150,151,152,153,154,155,156,157,158,159,160,161,162,163,164,165,166,167,168,169,170,171,172,173,174,175,176,177,178] ?_;refine AS fun _ ga Ca g E=>?_;first|have h:=h.keep ga Ca O (.inl rfl)|have h:=h.keep ga Ca O (.inr ⟨by simp,fun hm=>by have:=htb2 _ hm;omega⟩)
 have hO:=Ua hO;have k156:=k156.keep ga Oi;have k162:=k162.keep ga Oi;refine RTN ?_;have hz:(decide ((Zb t 1).kind=9) || endsL (Zb t 2).kids)=true:=by first|(rw [Wig h6];rfl)|(rw [Xbd (fun _=>(Vcb hei hloc).2),← eqT0];exact hq179)
 have e:funR F t S=(annT t [annT (Zb t 0) (parA F (Zb t 0) (funS0 S) (Zb t 0).kids.length).1 ty0,plainT (Zb t 1),((ckT F (Zb t 2)).sts (funS2 F t S)).1] ty0,failU (decide ((Zb t 1).kind=9) || endsL (Zb t 2).kids) t.pos 7 ((ckT F (Zb t 2)).sts (funS2 F t S)).2):=rfl;rw [ed,e,hz];exact ⟨he156,Zy (t:=annT t [annT (Zb t 0) (parA F (Zb t 0) (funS0 S) (Zb t 0).kids.length).1 ty0,plainT (Zb t 1),_] ty0) rfl (Wi (ks:=[annT (Zb t 0) (parA F (Zb t 0) (funS0 S) (Zb t 0).kids.length).1 ty0,plainT (Zb t 1),_]) ⟨l164,Xq E.g0⟩ E.g0.row (Xy (hO.sub (Y:=[b3,b4,b8,b9]) Oj).kd (Xy (k162.kdN q162) (Ys (k156.kdN q156)))) (Aba _)),(h.sub htb.1 (fun j hj=>Aha _ hj)).px,g⟩;replace h6:(Zb t 1).kind=9:=by simpa using h6
 refine AU ?_;obtain ⟨fv3,ms3,mg3,mn3,mf3,pv3,sv3,cv3,rv3,vs3,sc3,h⟩:=h;have e2:funS2 F t S = { (parA F (Zb t 0) (funS0 S) (Zb t 0).kids.length).2 with result:=(ofF (Zb t 1)).1 }:=Yqe (by first|exact fun _=>⟨hei,hloc⟩|exact fun h9=>absurd h6 h9);refine AU ?_;refine Yf _ J Wt Xd (pqc J pq0) J J ?_;intro b148 w148 N148;have l148:=Wq N148 g.size;have hp148:=h;have nlt148:=N148.blk.lt;have nat148:=N148.at_;have hO:=hO.new N148;have B148:=N148.blk;have g:=gtg g N148.g;replace E:=E.grow N148.g;have h:=h.grow (N148.g);refine AU ?_;refine Yc J Qu (Zc J) (Zc J) J h.B J J ?_;intro w150 hg150 hz150 B150;replace E:=E.keepT hg150 h.B rfl;have B148:=N148.blk.keep hg150 (Wj (Yka N148.blk h.B rfl));have g150:GT (mutC (b16::X)) n0 _ w150:=Qea h.B rfl h.hb h.bx hg150;have g:=gtw g g150;have hO:=hO.gt g150 rfl;have ro3:w150.ownsRow n0 24 2 (.slice (some ⟨b148,0,none⟩) 1 1) 1 ([(ofF (Zb t 1)).1].flatMap tyCells):=by first|exact Vpb B148 O rfl Od|(rw [Vdb h6];exact Vpb B148 O rfl Od)
 have h:=(hp148.oth (q1:=some []) (S':={ (parA F (Zb t 0) (funS0 S) (Zb t 0).kids.length).2 with result:=(ofF (Zb t 1)).1 }) ((GT.of_g N148.g).trans g150) B150 (Yo h.so hg150 (.inr (Wl h.so h.B rfl))) (h.sr.keepb hg150 h.B rfl) (Yo h.co hg150 (.inr (Wl h.co h.B rfl))) ro3 (fun l e=>by injection e with e;subst e;exact (Xcc F (Zb t 0) S _).1.symm) (fun k hk=>.inl hk) (fun k hk=>.inr (by have e:b148=k:=(by injection hk);omega)) rfl rfl).pc;rw [← e2] at h;have he2:(funS2 F t S).ee=0:=by rw [e2];exact hei
 have hcan:CanV (funS2 F t S):=by rw [e2];exact Usc F (Zb t 0) S (Zb t 0).kids.length
 have hbd2:=Yke F t S;refine Ze (kq (Zn (Zu (Zx J (Xm Zf J (Xr Zi J (E.g4.at_ J) (Xsa Zd J J O e0 (Vx Zj J J (hc2w.gt g hDp) (Y2 J Up J J (CxM.to hS2 [b3,b4,b8,b9,b16] h he2 hcan (hk2w.gt g (fun k h=>h)) hbd2 O (E.ltm Ob) g.size) ((fun ch w' hz=>hz.d (by rw [ed];exact (Er.refl _).failu _ _ _) g)) ?_)))))))));rintro v156 w156 ⟨⟨p156,c156,rfl,q156,k156⟩,he156,h,g156⟩;refine ⟨nw1,?_⟩;have g:=gtw g g156;replace E:=E.gtx g156;have hO:=hO.gt g156 rfl;refine AN fun b17 _ ga _ g E=>?_;have hp17:=h;have nlt17:=ga.blk.lt;have nat17:=ga.at_;have hO:=Uj hO;have k156:=Uj k156;have h:=Ui h;refine AS fun _ ga Ca g E=>?_;first|have h:=h.keep ga Ca O (.inl rfl)|have h:=h.keep ga Ca O (.inr ⟨by simp,fun hm=>by have:=htb2 _ hm;omega⟩)
 have hO:=Ua hO;have k156:=k156.keep ga Oi;refine AU ?_;skip;refine Xe [0,3,0,3,0,1,0,1,3,2] [true,true,true,true,true,true,false,true,true,true] [0,0,2,6,14,30,0,127,255,511] mix KR ?_;have g:=gtd g;replace E:=E.dr;have h:=h.grow (G.drew _);have hO:=hO.grow (G.drew _);have k156:=k156.grow (G.drew _);have EC:=E;refine Vx Zj J J E.g2.row (Xm Zf J (Xr Zi J (E.g5.at_ J) (Xsa Zd J J O e0 (Vx Zj J J (hc1w.gt g hDp) (CL (Zra (Zb t 1) _ _ _ [b3,b4,b8,b9,b16,b17] (hk1w.gt g (fun k h=>h)) O (E.ltm Ob) g.size) ?_)))));rintro _ _ ⟨⟨p162,c162,rfl,q162,k162⟩,ga⟩;refine RC fun g E=>?_;have h:=Uk h;have hO:=Uk hO;have k156:=Uk k156;refine Zrc J (Zq Zj (Zc J) J (fun _=>EC.g0.row)) (CN fun _ _ ga l164 g E=>?_);have hp164:=h;have nlt164:=ga.blk.lt;have nat164:=ga.at_;have hO:=Uj hO;have k156:=Uj k156;have k162:=Uj k162;have h:=Ui h;refine AS fun _ ga Ca g E=>?_;first|have h:=h.keep ga Ca O (.inl rfl)|have h:=h.keep ga Ca O (.inr ⟨by simp,fun hm=>by have:=htb2 _ hm;omega⟩)
 have hO:=Ua hO;have k156:=k156.keep ga Oi;have k162:=k162.keep ga Oi;refine AU ?_;refine Yr (rowR none) [0,3,3,3,3,0,3,3,0,1,3,3,0,1] [0,0,3,7,15,31,63,127,255,511,1023,0,2048,8191] mix KR [0,1,2,3,4,5,6,7,8,9,10,11,12,13] J ?_;have g:=gtd g;replace E:=E.dr;have h:=h.grow (G.drew _);have hO:=hO.grow (G.drew _);have k156:=k156.grow (G.drew _);have k162:=k162.grow (G.drew _);refine Ye 0 J J (fun w1 hx=>Zq Zl (Zc J) J (fun _=>(E.g2.keep hx (fun h=>nomatch h)).row)) (Zt 1 J J (fun _=>Uh [_,_] Xd J Vd (Va) J) (Zt 2 J J (fun _=>Qy Wf (Zc J) (Zc J) J) (Zt 3 J J (fun _=>Zm (Zc J)) (Xka (L':=[5,6,7,8,9,10,11,12,13]) 4 J J J J J (fun _=>Zg Zf (Zc J)) (Ufa (L':=[6,7,8,9,10,11,12,13]) 5 J J J J J (fun w1 hx=>Zw Zi (Zz J id) (fun _=>(E.g6.keep hx (fun h=>nomatch h)).at_ J)) (Xka (L':=[7,8,9,10,11,12,13]) 6 J J J J J (fun _=>Xs Zd (Zz J id) Xh (fun _=>O) (fun _=>e0)) (Xka (L':=[8,9,10,11,12,13]) 7 J J J J J (fun _=>Zg Zf (Zz J id)) (Ufa (L':=[9,10,11,12,13]) 8 J J J J J (fun w1 hx=>Zw Zi (Zz J id) (fun _=>((hc2w.gt g hDp).kn hx).one (i:=4) J)) (Zt 11 J J (fun _=>Zg We (Zc J)) (Ye 12 J J (fun w1 hx=>Zw Yk (Zc J) (fun _=>(E.g6.keep hx (fun h=>nomatch h)).at_ J)) (Zk 9 J J ?_)))))))))));refine Zh (L':=[10,13]) [0,3,3,3,3,0,3,3,0,1,3,3,0,1] J J J ?_;refine CG (fun hc=>Vld 1000001 _ _ _ _ (hk2w.gt g (fun k h=>h)) (sh10 hb2) (by have:=Zfc (Zb t 2);omega) (Aba _)) (fun w175 g175=>?_);have g:=gtg g g175;replace E:=E.grow g175;have h:=h.grow (g175);have hO:=hO.grow (g175)
 have k156:=k156.grow (g175);have k162:=k162.grow (g175);refine Zr ((g175).only _) ?_;refine Zt 10 J J (fun _=>Wb (Zc J) (Zz J id)) (Zk 13 J J ?_);refine Zh (L':=[]) [0,3,3,3,3,0,3,3,0,1,3,3,0,1] J J J ?_;refine Y3 J Yj J J J (Vw _ _ _ _) ((fun ch w' hz=>Joc he156 Od (by rw [ed];first|exact Jvf h6|(rw [eqT0,← Xbd (fun _=>(Vcb hei hloc).2)];exact Er.refl _)) hz g)) ?_;rintro v179 w179 ⟨rfl,hq179,g179⟩;refine ⟨fun _=>g179,?_⟩;have g:=gtg g g179;replace E:=E.grow g179;have h:=h.grow (g179);have hO:=hO.grow (g179);have k156:=k156.grow (g179);have k162:=k162.grow (g179);refine Zr ((g179).only _) ?_;refine TK [0,3,4,8,9,16,17,60,61,62,63,64,65,66,67,68,69,70,71,72,73,74,75,76,77,79,80,81,82,83,84,85,86,134,135,136,137,138,139,146,147,148,149,150,151,152,153,154,155,156,157,158,159,160,161,162,163,164,165,166,167,168,169,170,171,172,173,174,175,176,177,178] ?_;refine AS fun _ ga Ca g E=>?_;first|have h:=h.keep ga Ca O (.inl rfl)|have h:=h.keep ga Ca O (.inr ⟨by simp,fun hm=>by have:=htb2 _ hm;omega⟩)
 have hO:=Ua hO;have k156:=k156.keep ga Oi;have k162:=k162.keep ga Oi;refine RTN ?_;have hz:(decide ((Zb t 1).kind=9) || endsL (Zb t 2).kids)=true:=by first|(rw [Wig h6];rfl)|(rw [Xbd (fun _=>(Vcb hei hloc).2),← eqT0];exact hq179)
 have e:funR F t S=(annT t [annT (Zb t 0) (parA F (Zb t 0) (funS0 S) (Zb t 0).kids.length).1 ty0,plainT (Zb t 1),((ckT F (Zb t 2)).sts (funS2 F t S)).1] ty0,failU (decide ((Zb t 1).kind=9) || endsL (Zb t 2).kids) t.pos 7 ((ckT F (Zb t 2)).sts (funS2 F t S)).2):=rfl;rw [ed,e,hz];exact ⟨he156,Zy (t:=annT t [annT (Zb t 0) (parA F (Zb t 0) (funS0 S) (Zb t 0).kids.length).1 ty0,plainT (Zb t 1),_] ty0) rfl (Wi (ks:=[annT (Zb t 0) (parA F (Zb t 0) (funS0 S) (Zb t 0).kids.length).1 ty0,plainT (Zb t 1),_]) ⟨l164,Xq E.g0⟩ E.g0.row (Xy (hO.sub (Y:=[b3,b4,b8,b9]) Oj).kd (Xy (k162.kdN q162) (Ys (k156.kdN q156)))) (Aba _)),(h.sub htb.1 (fun j hj=>Aha _ hj)).px,g⟩
theorem Vge:(typeNames.all fun s=>(decide (Ql ⟨typKind s,[]⟩ = !decide (8≤typKind s))) && !decide (typKind s=0))=true:=KR
theorem Ywf{s:List UInt8}(h:Ur s=true):Ql ⟨typKind s,[]⟩=(!decide (8≤typKind s))∧typKind s≠0:=by
 have:=Awa.1 Vge s ((Jub _ _).1 h);simpa using this
theorem Xdc{k:Nd}(h:Zza k=true):GoodT (ofF k).1∧tyEqB (ofF k).1 ty0=false:=by
 unfold Zza at h;unfold ofF;cases h8:decide (k.kind=8);rw [h8] at h;cases h7:decide (k.kind=7);rw [h7] at h;cases h;rw [h7] at h;have h:(Ur k.text&&Jsa k)=true:=h;obtain ⟨h1,h2⟩:=Aqa.1 h;rw [h2,h1,show decide (k.kind=9)=false from Whg (by have:=Wmg h7;omega)];obtain ⟨g1,g2⟩:=Ywf h1;refine ⟨g1,?_⟩;cases q:tyEqB (⟨typKind k.text,[]⟩:Ty) ty0;exact q;have e:=(Yfb _ _).1 q;exact absurd (congrArg Ty.kind e) g2;rw [h8] at h;have h:(nameB k.text&&Jsa k)=true:=h;obtain ⟨h1,h2⟩:=Aqa.1 h;rw [h2,h1,show decide (k.kind=9)=false from Whg (by have:=Wmg h8;omega)];refine ⟨?_,?_⟩;show Ql ⟨4,k.text⟩=true;have e:refB ⟨4,k.text⟩=true:=h1;unfold Ql;rw [e,Bool.or_true];cases q:tyEqB (⟨4,k.text⟩:Ty) ty0;exact q;have e:=(Yfb _ _).1 q;exact absurd (congrArg Ty.kind e) (show ¬ (4:Int)=0 by decide)
theorem Qza{kd:Int}{s:List UInt8}{F:Nd}(h:0≤(findD F kd s).2):∃ j,∃ hj:j<F.kids.length,(Zb F j).kind=kd∧(Zb F j).text=s∧(findD F kd s).1=Zb F j:=by
 obtain ⟨j,hj,h1,h2,_⟩:=Zic kd s F.kids 0 h;refine ⟨j,hj,by rw [Wc hj];exact h1,?_,by rw [Wc hj];exact h2⟩
 have e:∀ (l:List Nd) (k:Nat),0≤(findK kd s l k).2→(findK kd s l k).1.text=s:=by
  intro l
  induction l with
  | nil=>intro k h;exact absurd h (show ¬ (0:Int)≤-1 by decide)
  | cons d l ih =>
   intro k h;unfold findK at h ⊢;cases hd:decide (d.kind=kd);rw [hd] at h;exact ih k h;rw [hd] at h;cases hs:decide (d.text=s);rw [hs] at h;exact ih (k+1) h;exact Wmg hs
 have h3:=e F.kids 0 h;rw [h2] at h3;rw [Wc hj];exact h3
theorem Xcd{F:Nd}{i j:Nat}(hj:j<i)(hi:i<F.kids.length)(e:(Zb F j).text=(Zb F i).text):dupAt F i=true:=by
 unfold dupAt;rw [List.any_eq_true];refine ⟨Zb F j,?_,Wig e⟩;rw [Wc O,List.mem_take_iff_getElem];exact ⟨j,O,rfl⟩
theorem fw_of{F:Nd}(hv:validB F=true)(hd:∀ j,j<F.kids.length→dupAt F j=false):FW F:=by
 obtain ⟨h1,hp⟩:=Vbb hv;have hdc:=Xbc h1 hp;refine ⟨fun s hs=>?_,fun s hs=>?_,fun s f hf=>?_,fun s hs=>?_⟩;obtain ⟨j,hj,k4,_,e⟩:=Qza hs;rw [e];obtain ⟨_,_,ht,_⟩:=pf4 k4 (hdc _ (Zdb hj)).2;unfold resT;rcases ht with ht|ht;rw [(Xdc ht).2];exact (Whg (Yqd ht)).symm;have h9:=(Qm ht).1;rw [Vdb h9,Wig h9];rfl;obtain ⟨j,hj,k6,_,e⟩:=Qza hs;rw [e];exact (Xdc (pf6 k6 (hdc _ (Zdb hj)).2).2.1).1;unfold Js at hf
 cases hq:F.kids.find? (isStr s) with
 | none=>rw [hq] at hf;cases hf
 | some d =>
  rw [hq] at hf;have hm:=List.mem_of_find?_eq_some hq
  have h2:d.kind=2:=by
   have:=List.find?_some hq;unfold isStr at this;simp only [Bool.not_eq_true',Aja,Bool.not_eq_false',Wkg] at this;exact this.1
  have hpd:=(hdc d hm).2;dsimp only at hf
  cases hl:mapO Wwa d.kids with
  | none=>rw [hl] at hf;cases hf
  | some l =>
   rw [hl] at hf;obtain ⟨z,hz,e⟩:=Vwc _ _ hl f hf;have hz3:=Wea (.inl h2) hpd z hz;obtain ⟨hzl,hzt⟩:=pf3 hz3.1 hz3.2;unfold Wwa at e;rw [hz3.1,hzl] at e;have e:(bif (ofF (kid0 z)).2 then some ⟨z.text,(ofF (kid0 z)).1⟩ else none)=some f:=e;cases h2:(ofF (kid0 z)).2;rw [h2] at e;cases e;rw [h2] at e;injection e with e;subst e;exact (Xdc hzt).1
 obtain ⟨i,hi,k6,e6,_⟩:=Qza hs;rcases Int.lt_or_le (findD F 4 s).2 0 with h|h;exact h;obtain ⟨j,hj,k4,e4,_⟩:=Qza h;rcases Nat.lt_trichotomy i j with q|q|q;have:=Xcd q hj (e6.trans e4.symm);rw [hd j hj] at this;cases this;subst q;rw [k6] at k4;exact absurd k4 Od;have:=Xcd q hi (e4.trans e6.symm);rw [hd i hi] at this;cases this
def RecD(P:Ea)(f:FuncId)(args:Array Fa)(u u':FrameMode)(w:Aa)(R:Fa→Aa→Prop):Prop:=CallsDIn Fence.wide (0-1) P f args u w fun e u2 w'=>u2=u'∧∃ v,e = .returned v∧R v w'
section
variable {P:Ea} {n:Nat} {fn:Func} {R:Fa→Aa→Prop} {Rp:List Da→Aa→Prop} {σ:List Ent} {w:Aa} {ds:List Deferred}
theorem Yug{f:Nat}{cs args:Array Fa}{R':Fa→Aa→Prop}(hgo:goFn P f=true)(hC:RecD P f (args++cs) .returning .returning w R')(h:∀ v w',R' v w'→∀ a,Kn n σ a→TD P fn R Rp ds a w'):∀ a,Kn n σ a→TD P fn R Rp (fnD f cs args::ds) a w:=fun a ha=>by
 refine ⟨by simp,.inr ⟨(fun h=>by cases h),.func f,cs,f,args++cs,rfl,Xsb hgo _ _,fun _ _=>trivial,?_⟩⟩;refine ⟨hC.1,fun c cs' hu hr=>?_⟩;obtain ⟨e,u',w',fr,⟨rfl,v,rfl,hv⟩,h2⟩:=hC.2 c cs' hu hr;refine ⟨.returned v,_,w',fr,?_,h2⟩;show LeavesInM _ _ _ _ _ _ _ (settle .returning) _;exact h v w' hv a ha
theorem Yvg{f:Nat}{cs args:Array Fa}{ch:List Da}{u':FrameMode}{R':Fa→Aa→Prop}(hgo:goFn P f=true)(hs:settle u' = .returning)(hC:RecD P f (args++cs) (.panicking ch) u' w R')(h:∀ v w',R' v w'→∀ a,Kn n σ a→TD P fn R Rp ds a w'):∀ a,Kn n σ a→ZD P fn R Rp ch (fnD f cs args::ds) a w:=fun a ha=>by
 refine ⟨by simp,.inr ⟨(fun h=>by cases h),.func f,cs,f,args++cs,rfl,Xsb hgo _ _,fun _ _=>trivial,?_⟩⟩;refine ⟨hC.1,fun c cs' hu hr=>?_⟩;obtain ⟨e,u2,w',fr,⟨rfl,v,rfl,hv⟩,h2⟩:=hC.2 c cs' hu hr;refine ⟨.returned v,_,w',fr,?_,h2⟩;show LeavesInM _ _ _ _ _ _ _ (settle u2) _;rw [hs];exact h v w' hv a ha
theorem Jld{F:Fence}{k i:Nat}{ops:Array Oper}{Q:Exit→Act→List Frame→Aa→Prop}{l:List Nat}{a:Act}{cs:List Frame}{o:Oper}{v:Fa}{w':Aa}(ho:ops[i]? = some o)(hg:o.guard=none)(hr:(execOp a.eval o).run P w = .ok (.value v) w')(hab:∀ f,o.about P w a.eval=some f→F.fn f)
 (h:wpOpsSIn F k P ops Q l (a.put o.dst v) cs w'):wpOpsSIn F k P ops Q (i::l) a cs w:=by
 unfold wpOpsSIn;simp only [ho];refine ⟨hab,?_⟩;rw [if_pos (by unfold Region.wanted;rw [hg])];simp only [hr];exact h
theorem Xdd{F:Fence}{k i:Nat}{ops:Array Oper}{Q:Exit→Act→List Frame→Aa→Prop}{l:List Nat}{a:Act}{cs:List Frame}{o:Oper}{w':Aa}(ho:ops[i]? = some o)(hg:o.guard=none)(hr:(execOp a.eval o).run P w = .ok .recover w')(hab:∀ f,o.about P w a.eval=some f→F.fn f)
  (h:match recoverD cs with
   | some (v,cs')=>wpOpsSIn F k P ops Q l (a.put o.dst v) cs' w'
   | none=>wpOpsSIn F k P ops Q l (a.put o.dst .nilIface) cs w'):wpOpsSIn F k P ops Q (i::l) a cs w:=by
 unfold wpOpsSIn
 simp only [ho]
 refine ⟨hab,?_⟩
 rw [if_pos (by unfold Region.wanted;rw [hg])]
 simp only [hr]
 exact h
theorem Utc{f id d0 d1:Nat}{fn:Func}{t0 t1:Ba}{p0 p1:String}{e0 e1:Array Edge}{rest:Code}{args:List Fa}{x:Fa}{u u':FrameMode}{R:Fa→Aa→Prop}{m:Nat}
 (hf:P.funcs[f]? = some fn) (hb:fn.body=some (.seq (.region id #[⟨some d0,.call { callee:=.builtin .recover,args:=#[],argTypes:=#[] },t0,p0,e0,none⟩,⟨some d1,.assign (.tmp d0),t1,p1,e1,none⟩] false) rest)) (hm:args.length+(fn.ntmps-args.length)=m)
 (σ0:List Ent) (hs:Sub σ0 (argsK 0 args)) (h0:Nat.blt d0 m=true) (h1:Nat.blt d1 m=true)
 (hrec:∀ (c₀:Frame) (cs:List Frame),c₀.mode=u→recoverD (c₀::cs)=some (x,{ c₀ with mode:=u' }::cs)∨(recoverD (c₀::cs)=none∧x = .nilIface∧u'=u))
 (hh:SC P m rest (fun a w=>bodyPost P fn (fun e w'=>∃ v,e = .returned v∧R v w') .normal a w) [] (fun a w=>bodyPost P fn (fun e w'=>∃ v,e = .returned v∧R v w') .ret a w) ((d1,True,x)::(d0,True,x) :: σ0) w):RecD P f args.toArray u u' w R:=by
 refine callsDIn_of_wpSIn hf hb trivial fun c₀ cs hu=>?_
 have hk:Kn m σ0 { tmps:=args.toArray++Array.replicate (fn.ntmps-args.toArray.size) undef,defers:=[] }:=by
  refine Kn.sub (σ:=argsK 0 args) ?_ hs;refine ⟨by simp [← hm],rfl,fun t c' v hl=>?_⟩;obtain ⟨rfl,_,h3⟩:=Vca args 0 t c' v hl;refine ⟨fun _=>?_,fun hn=>absurd trivial hn⟩;rw [Nat.sub_zero] at h3;have hlt:t<args.length:=(List.getElem?_eq_some_iff.1 h3).1;simp [Array.getElem?_append,hlt,h3];simpa [hlt] using h3
 generalize ({ tmps:=args.toArray++Array.replicate (fn.ntmps-args.toArray.size) undef,defers:=[] }:Act)=a0 at hk ⊢;have hk1:Kn m ((d0,True,x) :: σ0) (a0.put (some d0) x):=hk.put h0 (fun _=>rfl) fun h=>absurd trivial h;have hk2:Kn m ((d1,True,x)::(d0,True,x) :: σ0) ((a0.put (some d0) x).put (some d1) x):=hk1.put h1 (fun _=>rfl) fun h=>absurd trivial h
 have key:∀ cs',cs' = { c₀ with mode:=u' }::cs→rest.wpSIn Fence.wide (0-1) P (bodyPostS P fn c₀ cs fun e u2 w'=>u2=u'∧∃ v,e = .returned v∧R v w') ((a0.put (some d0) x).put (some d1) x) cs' w:=fun cs' e=>by
  subst e;refine wpSIn_of_wpIn J (wpIn_mono (F:=Fence.wide) (wpIn_wide.2 (hh _ hk2)) fun e a w q=>?_)
  cases e with
  | normal =>
   obtain ⟨hd,v,hr,v',e,hv⟩:=q;exact ⟨hd,_,rfl,v,hr,rfl,v',e,hv⟩
  | ret =>
   obtain ⟨hd,v,hr,v',e,hv⟩:=q;exact ⟨hd,_,rfl,v,hr,rfl,v',e,hv⟩
  | panic ch=>exact q.2.elim
  | _=>exact q.elim
 refine wpSIn_seq (wpSIn_region ?_);have ex:(a0.put (some d0) x).eval (.tmp d0)=x:=Zc (σ:=(d0,True,x) :: σ0) (t:=d0) (by unfold look;rw [Nat.beq_refl];rfl) _ hk1 trivial
 have step2:∀ cs',cs' = { c₀ with mode:=u' }::cs→wpOpsSIn Fence.wide (0-1) P #[⟨some d0,.call { callee:=.builtin .recover,args:=#[],argTypes:=#[] },t0,p0,e0,none⟩,⟨some d1,.assign (.tmp d0),t1,p1,e1,none⟩] (Exit.thenS (rest.wpSIn Fence.wide (0-1) P (bodyPostS P fn c₀ cs fun e u2 w'=>u2=u'∧∃ v,e = .returned v∧R v w')) (bodyPostS P fn c₀ cs fun e u2 w'=>u2=u'∧∃ v,e = .returned v∧R v w')) [1] (a0.put (some d0) x) cs' w:=fun cs' e=>by
  exact Jld (i:=1) rfl rfl (by simp [execOp,ex]) (fun _ _=>trivial) (key cs' e)
 show wpOpsSIn Fence.wide (0-1) P _ _ [0,1] a0 (c₀::cs) w;refine Xdd (i:=0) (w':=w) J J (by simp [execOp,resolve,invoke,builtin]) (fun _ _=>trivial) ?_;rcases hrec c₀ cs hu with hq|⟨hq,hx,hu'⟩;rw [hq];exact step2 _ rfl;rw [hq];subst hx;exact step2 _ (by rw [hu',← hu])
end
def Agr(n:Nat)(ts:List Nat)(a a':Act):Prop:=a.tmps.size=a'.tmps.size∧a'.defers=[]∧∀ t∈ts,a'.tmps[t]? = a.tmps[t]?
theorem Qcf{n:Nat}{ts:List Nat}{a a':Act}{d:Option Tmp}{v:Fa}(h:Agr n ts a a')(hd:∀ k,d=some k→k∉ts):Agr n ts (a.put d v) a':=by
 cases d with
 | none=>exact h
 | some k =>
  refine ⟨by simp [Act.put,h.1],h.2.1,fun t ht=>?_⟩;have hk:k≠t:=fun e=>hd k rfl (by rw [e];exact ht);rw [h.2.2 t ht];simp only [Act.put];rw [Array.getElem?_setIfInBounds_ne hk]
theorem Jmd{P:Ea}{n:Nat}{ds:List Deferred}{N T:DPost}{X:List (Nat×DPost)}{Z:List Da→DPost}{σ:List Ent}{w:Aa}{id:Nat}{l:List Oper}(ts:List Nat)(row:RelX)(cl:List Nat)(ms:List Nat)(hm:P.follows .mixedOrders=true)(hok:okT l cl ms=true)(L:List Nat)(hL:List.range l.length=L)
 (hts:(l.all fun o=>match o.dst with|some d=>ts.all fun t=>!Aca d t|none=>true)=true)
 (h:ST P (fun ch a w=>∀ a',Agr n ts a a'→Z ch ds a' w) l cl ms row n (N ds) l.length L σ w.drew):SCD P none n ds (.region id l.toArray true) N X T Z σ w:=fun a ha=>by
 have h1:=h a ha;subst hL;have h2:=RT.wd (Z:=fun ch ds a w=>∀ a',Agr n ts a a'→Z ch ds a' w) (N:=N) ds _ _ a w.drew ha.2.1 h1;have h3:RT P (fun ch=>onD (fun ds a w=>∀ a',Agr n ts a a'→Z ch ds a' w)) l.toArray (clOf cl) (wtOf ms) row (onD N) l.toArray.size (List.range l.toArray.size) (wd ds a) w.drew:=by simpa using h2
 refine Uzb (Z:=fun ch=>onD (fun ds a w=>∀ a',Agr n ts a a'→Z ch ds a' w)) (fun ch a d v w ho hz=>?_) (Vac hok) (fun ch a w h=>h _ ⟨rfl,rfl,fun _ _=>rfl⟩) hm h3;obtain ⟨i,o,hi,rfl⟩:=ho;have hz:∀ a',Agr n ts (wd [] (a.put o.dst v)) a'→Z ch (a.put o.dst v).defers a' w:=hz;rw [Zya,← Qlb] at hz;intro a' ha';refine hz a' (Qcf ha' fun k hk hm=>?_)
 have hmem:o∈l:=by
  rw [List.getElem?_toArray] at hi;exact Bca hi
 have:=Awa.1 hts o hmem;rw [hk] at this;have:=Awa.1 this k hm;simp at this
theorem Jpc{P:Ea}{n:Nat}{ds:List Deferred}{N T:DPost}{X:List (Nat×DPost)}{Z:List Da→DPost}{σ:List Ent}{w:Aa}{c:Code}{α:Type}(I:α→Aa→Prop)(E:Aa→Prop)(σc:List Ent)(σf:α→List Ent)(μ:α→Nat)(x0:α)(h0:I x0 w)(hE:E w)(hs:Sub (σf x0 ++ σc) σ)
 (round:∀ x w,I x w→E w→SCD P none n ds c (fun ds' a' w'=>ds'=ds∧∃ y,Kn n (σf y ++ σc) a'∧I y w'∧E w'∧μ y < μ x) X T Z (σf x ++ σc) w):SCD P none n ds (.loop c) N X T Z σ w:=by
 refine Wae (fun x w=>I x w∧E w) σc σf μ x0 ⟨h0,hE⟩ hs fun x w h=>fun a ha=>wpIn_mono (round x w h.1 h.2 a ha) (fun e a w q=>?_)
 cases e with
 | normal=>obtain ⟨q1,y,q2,q3,q4,q5⟩:=q;exact ⟨q1,y,q2,⟨q3,q4⟩,q5⟩
 | _=>exact q
theorem Agr.kn{n:Nat}{ts:List Nat}{a a':Act}{σ τ:List Ent}(h:Agr n ts a a')(ha:Kn n σ a)(hs:Sub τ σ)(ht:∀ t c v,look τ t=some (c,v)→t∈ts):Kn n τ a' :=
 ⟨h.1.symm.trans ha.1,h.2.1,fun t c v hl=>by rw [h.2.2 t (ht t c v hl)];exact ha.2.2 t c v (hs t c v hl)⟩
theorem Jnd{P:Ea}{n:Nat}{σ:List Ent}{c:Prop}{wb:Aa}{ty t xt:Ba}{x:Operand}{u:Fa}(ht:Ztc P t=true)(h:Ev n σ c x (.iface t u)):Rd P n σ c wb (.typeAssert x xt t true) ty (.tuple #[u,.bool true]):=.mk fun d pos after gd a ha hc w1 _=>by
 have hx:=h a ha hc;unfold Ztc at ht;split at ht;cases ht;rename_i τ hτ hu
 have r:(Instr.typeAssert (.iface t u) xt t true).run P w1 = .ok (.tuple #[u,.bool true]) w1:=by
  cases τ <;> first|(exact absurd rfl (hτ _))|simp [Instr.typeAssert,run_underlying hu]
 simp [execOp,hx,r];cases ht
theorem Jod:Ztc PP 48=true:=KR
theorem Yxf(c₀:Frame)(cs:List Frame)(h:c₀.mode = .returning):recoverD (c₀::cs)=some (.nilIface,{ c₀ with mode:=.returning }::cs)∨(recoverD (c₀::cs)=none∧Value.nilIface = .nilIface∧FrameMode.returning = .returning):=by
 refine .inr ⟨?_,rfl,rfl⟩;simp only [recoverD,h]
theorem Yyf(v:Fa)(c₀:Frame)(cs:List Frame)(h:c₀.mode = .panicking [⟨v,false,false⟩]):recoverD (c₀::cs)=some (v,{ c₀ with mode:=.panicking [⟨v,true,false⟩] }::cs)∨(recoverD (c₀::cs)=none∧v = .nilIface∧FrameMode.panicking [⟨v,true,false⟩] = .panicking [⟨v,false,false⟩]):=by
 refine .inl ?_;simp only [recoverD,h]
theorem Vhe{c2 c3 c4:Fa}{w:Aa}:RecD PP 28 #[c2,c3,c4] .returning .returning w fun r w'=>r = .tuple #[]∧G w w':=by
 have g:=G.refl w;refine Utc (m:=22) (x:=.nilIface) Tryz.func28 J J [(0,True,_),(1,True,_),(2,True,_)] (Za J (Za J (Za J (Zo _)))) J J (Yxf) ?_;refine Zn (Zu (Zx rfl (Zs rfl (fun _=>Umd Jfb (Zc rfl) (by first|exact .inl rfl|exact .inr ⟨_,_,rfl⟩)) (Ze (kq (Qk rfl (fun h1=>?_) (fun h1=>?_)))))))
 ·exact absurd h1 Od
  done
 refine Yp (Yia J ?_);exact ⟨rfl,g⟩
theorem Vie{a e:Int}{bn bi be:Nat}{w:Aa}{u2:Nd}{s2 x y:Fa}(Bn:Blk w bn 26 (ndCells u2 s2))(Bi:Blk w bi 3 [x])(Be:Blk w be 30 [y]) :
 RecD PP 28 #[.pointer (some ⟨bn,0,none⟩),.pointer (some ⟨bi,0,none⟩),.pointer (some ⟨be,0,none⟩)] (.panicking [failE a e]) (.panicking [⟨(failE a e).v,true,false⟩]) w fun r w'=>r = .tuple #[]∧Blk w' bn 26 (ndCells nd0 (.slice none 0 0))∧Blk w' bi 3 [.int .i64 a]∧Blk w' be 30 [.int .i64 e]∧OutG [bn,bi,be] w w':=by
 have hbn:=Bn.lt;have hbi:=Bi.lt;have hbe:=Be.lt;have g:=G.refl w;refine Utc (m:=22) (x:=(failE a e).v) Tryz.func28 J J [(0,True,_),(1,True,_),(2,True,_)] (Za J (Za J (Za J (Zo _)))) J J (Yyf _) ?_;refine Zn (Zu (Zx rfl (Zs rfl (fun _=>Umd Jfb (Zc rfl) (by first|exact .inl rfl|exact .inr ⟨_,_,rfl⟩)) (Ze (kq (Qk rfl (fun h1=>?_) (fun h1=>?_)))))))
 ·(try simp only [bsimp] at h1)
  refine Zn ?_;refine Ws [3,0,3,3,3,1,2,3] ?_;refine AU ?_;refine Ut J (Jnd Jod (Zc J)) ?_;refine AM fun _ _ ga _ g E=>?_;have Bn:=Ui Bn;have Bi:=Ui Bi;have Be:=Ui Be;refine AS fun _ ga _ g E=>?_;have Bn:=Bn.keep ga (by intro e;injection e with e;omega);have Bi:=Bi.keep ga (by intro e;injection e with e;omega);have Be:=Be.keep ga (by intro e;injection e with e;omega);refine IF (fun h2=>?_) fun h2=>?_
  ·exact absurd h2 Od
   done
  refine AU ?_;refine Yr (outR [bn,bi,be]) [3,3,0,3,0,1,1,2] [0,0,2,0,8,1,39,127] mix KR [0,1,2,3,4,5,6,7] J ?_;have g:=gdr g;replace E:=E.dr;have Bn:=Bn.grow (G.drew _);have Bi:=Bi.grow (G.drew _);have Be:=Be.grow (G.drew _);have gB:=OutG.of_g (X:=[bn,bi,be]) g;refine Zt 0 J J (fun _=>Uh [_,_,_,_,_,_,_,_,_] Zp J Xt (Va) J) (Zt 1 J J (fun _=>Zg Jea (Zc J)) (Ye 2 J J (fun w1 hx=>Zw Yk (Zc J) (fun _=>(E.g0.out hx (by intro hm;simp only [Ada,Axa,or_false] at hm;omega)).at_ J)) (Zt 3 J J (fun _=>Zg Jfa (Zc J)) (Ye 4 J J (fun w1 hx=>Zw Xqa (Zc J) (fun _=>(E.g0.out hx (by intro hm;simp only [Ada,Axa,or_false] at hm;omega)).at_ J)) (Zk 5 J J ?_)))));refine Zh (L':=[6,7]) [3,3,0,3,0,2,2,2] J J J ?_;refine Xo J Xa (Zc J) (Zc J) J J Bn J J ?_;intro wA hgA hzA BA;have gB:=gB.trans (OutG.of_row hgA Os);replace E:=E.keepT hgA Bn rfl;have Bi:=Bi.keep hgA (Wj (Yka Bi Bn rfl));have Be:=Be.keep hgA (Wj (Yka Be Bn rfl));have Bn:=BA;refine Zr (OutG.of_row hgA Os) ?_;refine Zk 6 J J ?_;refine Zh (L':=[7]) [3,3,0,3,0,2,2,2] J J J ?_;refine Xo J Wz (Zc J) (Zc J) J J Bi J J ?_;intro wB hgB hzB BB;have gB:=gB.trans (OutG.of_row hgB Os);replace E:=E.keepT hgB Bi rfl;have Bn:=Bn.keep hgB (Wj (Yka Bn Bi rfl));have Be:=Be.keep hgB (Wj (Yka Be Bi rfl));have Bi:=BB;refine Zr (OutG.of_row hgB Os) ?_;refine Zk 7 J J ?_;refine Yb (L':=[]) [3,3,0,3,0,2,2,2] J J J J ?_;refine Xo J Qia (Zc J) (Zc J) J J Be J J ?_;intro wC hgC hzC BC;have gB:=gB.trans (OutG.of_row hgC Os);replace E:=E.keepT hgC Be rfl;have Bn:=Bn.keep hgC (Wj (Yka Bn Be rfl));have Bi:=Bi.keep hgC (Wj (Yka Bi Be rfl))
  have Be:=BC;refine Yl ?_;refine TK [] ?_;refine Qe (Yia J ?_);exact ⟨rfl,Bn,Bi,Be,gB⟩
 exact Ala (show true=false from h1);done
section
variable {P:Ea} {Z:List Da→Act→Aa→Prop} {ops:List Oper} {cl:List Nat} {lv:List Bool} {W0:Aa} {n:Nat} {K:Act→Aa→Prop} {k:Nat} {rest:List Oper} {σ:List Ent} {w:Aa} {d:Nat} {ty:Ba} {pos:String} {after:Array Edge}
theorem Xrc{t q q':Nat}{x y:Operand}{s zv:Fa}{news:List Fa}{b' o' lo:Nat}{X:List Nat}{ks ls:List Nd}(hb:(Aca (clOf cl k) 2&&Nat.blt d n)=true)(ht:tyElem P t=some (26,9,104))(hzv:zeroOf P 26=some zv)
 (hzs:zv.cells.size=9) (hx:Ev n σ True x s) (hO:OwnN X lo w ks s) (hy:Ev n σ True y (.slice (some ⟨b',o',none⟩) q q')) (hq:ls.length=q) (hn:RowAt w b' o' news) (hK:KRow w (fun b=>(Dx lo X b∧NdR w b)∧some b≠s.ownBlock) ls news)
 (hlen:ks.length+ls.length≤10000000) (hbase:lo≤w.heap.size) (hD:Dx lo X w.heap.size)
 (h:∀ a' c' w',OwnN X lo w' (ks++ls) (.slice a' (ks++ls).length c')→w.grownBy w' s.ownBlock→((Ga a' (ks++ls).length c').ownBlock=s.ownBlock∨(Ga a' (ks++ls).length c').ownBlock=some w.heap.size)→SR P Z ops cl lv W0 n K (k+1) rest ((d,True,.slice a' (ks++ls).length c') :: σ) w') :
 SR P Z ops cl lv W0 n K k (⟨some d,.call { callee:=.builtin .append,args:=#[x,y],argTypes:=#[t,t] },ty,pos,after,none⟩::rest) σ w:=by
 obtain ⟨xs,h1,h2,h3⟩:=id hO;subst hq;have ones:=Vob hK;refine Qb hb ht hzv hzs Od hx h1 hy (Uca hK) hn ones (by simp only [maxLen];omega) O hbase fun a' c' w' ho hg hat=>?_;have hlen':(ks++ls).length=ks.length+ls.length:=by simp
 have hnd:∀ b,(Ga a' (ks.length+ls.length) c').ownBlock=some b→NdR w' b:=fun b hb=>by
  rcases ho.2 with ⟨q1,_⟩|⟨g,cap,cur,q1,_,q3,_⟩;rw [q1] at hb;cases hb;rw [q1] at hb;have:g=b:=by injection hb
  subst this;exact ⟨_,_,q3⟩
 have hO':OwnN X lo w' (ks++ls) (.slice a' (ks++ls).length c'):=by
  refine ⟨xs++news,by rw [hlen'];exact ho,?_,?_⟩;rw [hlen'];refine Jl (fun b hb hlt=>⟨⟨hb.1.1,hb.1.2.same (hg.block b hlt hb.2)⟩,?_⟩) (fun b hb hlt=>hg.block b hlt hb.2) _ _ (Uda h2 hK);rcases hat with he|he <;> rw [he]
  exact hb.2;intro e;injection e with e;omega;rw [hlen'];intro b hb;refine ⟨?_,hnd b hb⟩;rcases hat with he|he <;> rw [he] at hb
  exact (h3 b hb).1;injection hb with hb;exact hb▸hD
 have:=h a' c' w' hO' hg (by rw [hlen'];exact hat);rwa [Aea] at this
end
theorem Jqc{w:Aa}{D:Nat→Prop}{u:Nd}:∀ {ks:List Nd} {xs:List Fa},KRow w D (ks++[u]) xs→KRow w D ks (xs.take (ks.length*9))
 | [],xs,h=>by show KRow w D [] (xs.take 0);rw [List.take_zero];exact Vlc
 | t::ts,xs,h=>by
  obtain ⟨v,r,rfl,h1,h⟩:=h;have k:=Jqc h;refine ⟨v,r.take (ts.length*9),?_,h1,k⟩;have e:(ndCells t v).length=9:=Jqa _ _;rw [List.take_append,e,Aoa (by rw [e,Aya];omega),show (t::ts).length*9-9=ts.length*9 by rw [Aya];omega]
theorem OwnN.setl{X:List Nat}{lo:Nat}{w:Aa}{ks:List Nd}{u:Nd}{s:Fa}(h:OwnN X lo w (ks++[u]) s):∃ g c l,s = .slice (some ⟨g,0,none⟩) (ks++[u]).length c∧Blk w g 26 l∧ks.length*9+9≤l.length∧g∉X∧lo≤g∧
 ∀ {w':Aa} {t:Nd} {v:Fa},w.grownBy w' (some g)→Blk w' g 26 (l.take (ks.length*9)++ndCells t v++l.drop (ks.length*9+(ndCells t v).length))→KRow w (fun k=>(Dx lo X k∧NdR w k)∧some k≠s.ownBlock) [t] (ndCells t v)→OwnN X lo w' (ks++[t]) (.slice (some ⟨g,0,none⟩) (ks++[t]).length c):=by
 obtain ⟨xs,ho,hX,hD⟩:=h;have hl1:(ks++[u]).length=ks.length+1:=by simp
 obtain ⟨g,c,l,rfl,hge,hB,hmc,hlen,htk,hre⟩:=Yqc ho O;have hg:=hD g rfl;rw [hl1] at htk hmc;have hfit:ks.length*9+9≤l.length:=by rw [hlen];have:=Bda 9 hmc;omega
 refine ⟨g,c,l,rfl,hB,hfit,hg.1.2,hg.1.1,fun {w' t v} hw hB' hK=>?_⟩;have hl2:(ks++[t]).length=ks.length+1:=by simp
 have e9:(ndCells t v).length=9:=Jqa _ _
 have et:(l.take (ks.length*9)++ndCells t v++l.drop (ks.length*9+(ndCells t v).length)).take ((ks.length+1)*9)=l.take (ks.length*9)++ndCells t v:=by
  rw [List.take_append_of_le_length (by rw [Aea,Ara,e9];omega),Aoa (by rw [Aea,Ara,e9];omega)]
 have el:(l.take (ks.length*9)++ndCells t v++l.drop (ks.length*9+(ndCells t v).length)).length=c*9:=by
  rw [Aea,Aea,Ara,List.length_drop,e9];omega
 have ho':=hre w' _ hB' el;rw [hl1,et] at ho';have hk:=Jqc hX
 have ex:xs.take (ks.length*9)=l.take (ks.length*9):=by
  rw [← htk,List.take_take,show min (ks.length*9) ((ks.length+1)*9)=ks.length*9 by omega]
 rw [ex] at hk;have hg':NdR w' g:=Xq hB';refine ⟨l.take (ks.length*9)++ndCells t v,by rw [hl2];exact ho',?_,fun k hk=>by injection hk with hk;subst hk;exact ⟨hg.1,hg'⟩⟩;refine Jl (fun k hk hlt=>⟨⟨hk.1.1,hk.1.2.same (hw.block k hlt fun e=>hk.2 e)⟩,hk.2⟩) (fun k hk hlt=>hw.block k hlt fun e=>hk.2 e) _ _ (Uda hk hK)
theorem KdX.app{lo l0:Nat}{X Y:List Nat}{w w':Aa}{ks ks0:List Nd}{v s s':Fa}(h:KdX lo X w ks v)(hO:OwnN Y l0 w ks0 s)(hs:∀ k,s.ownBlock=some k→k∈X∨k<lo)(hg:w.grownBy w' s.ownBlock)(hat:s'.ownBlock=s.ownBlock∨s'.ownBlock=some w.heap.size) :
 KdX lo (w.heap.size::X) w' ks v∧∀ k,s'.ownBlock=some k→k∈w.heap.size::X∨k<lo:=by
 refine ⟨Vg h (fun k hk hlt=>⟨⟨hk.1.1,fun hm=>?_⟩,hk.2.same (hg.block k hlt fun e=>?_)⟩) fun k hk hlt=>hg.block k hlt fun e=>?_,fun k hk=>?_⟩;rcases Ada.1 hm with q|q;omega;exact hk.1.2 q;rcases hs k e.symm with q|q;exact hk.1.2 q;have:=hk.1.1;omega;rcases hs k e.symm with q|q;exact hk.1.2 q;have:=hk.1.1;omega;rcases hat with q|q;rw [q] at hk;exact (hs k hk).imp (Aha _) id;rw [hk] at q;injection q with q;subst q;exact .inl Bea
/-! the declarations of a file -/
section
variable {F n:Nd} {S:CSt}
theorem Qdf(F n:Nd)(S:CSt)(k:Nat):Er S (strA F n S k):=by
 have h:=Yzd F n S 0 k;rw [Aza] at h;exact h
theorem Qef(F n:Nd)(S:CSt):Er S (dclR F n S).2:=by
 unfold dclR;refine Er.if2 (Qdf F n S _) (Er.if2 (Yyd _ (Er.refl _)) (Er.if2 ?_ (Er.refl _)));have h:=Xad (F:=F) (S:=funS0 S) (Zb n 0) 0 (Zb n 0).kids.length;rw [Aza] at h;have h0:Er S (parA F (Zb n 0) (funS0 S) 0).2:=Er.refl S;exact (h0.trans h).trans Ytf
theorem Uuc(F:Nd)(S:CSt)(i:Nat):∀ k,Er (dclA F S i).2 (dclA F S (i+k)).2
 | 0=>Er.refl _
 | k+1=>(Uuc F S i k).trans (Qef F _ _)
theorem Vpd(F:Nd)(S:CSt):Er S (mainS F S):=by
 unfold mainS;exact Er.if1 ((Er.refl S).fail _ _) (Er.if1 ((Er.refl S).fail _ _) (Er.refl S))
theorem Jrc(F:Nd)(S:CSt):∀ i,(dclA F S i).1.length=i
 | 0=>rfl
 | i+1=>by
  show ((dclA F S i).1++[_]).length=_;rw [Aea,Jrc F S i];rfl
end
theorem Zlc{F:Nd}(h:∀ j,j<F.kids.length→dupAt F j=false):refS F=mainS F (dclA F rs0 F.kids.length).2∧refA F=annT F (dclA F rs0 F.kids.length).1 ty0:=by
 unfold refS refA;rw [Jjd h];exact ⟨rfl,rfl⟩
theorem Yzf{F:Nd}(h:∀ j,j<F.kids.length→dupAt F j=false){i:Nat}(hi:i<F.kids.length):Er (dclR F (Zb F i) (dclA F rs0 i).2).2 (refS F):=by
 rw [(Zlc h).1];have k:=Uuc F rs0 (i+1) (F.kids.length-(i+1));rw [show i+1+(F.kids.length-(i+1))=F.kids.length by omega] at k;have e:(dclA F rs0 (i+1)).2=(dclR F (Zb F i) (dclA F rs0 i).2).2:=rfl;rw [e] at k;exact k.trans (Vpd F _)
theorem Qff(F:Nd):Er (namA F rs0 F.kids.length) (refS F):=by
 unfold refS;have k:=Uuc F (namA F rs0 F.kids.length) 0 F.kids.length;rw [Aza] at k;have h0:Er (namA F rs0 F.kids.length) (dclA F (namA F rs0 F.kids.length) 0).2:=Er.refl _;exact (h0.trans k).trans (Vpd F _)
theorem Xed{F:Nd}(hv:validB F=true)(h:(refS F).ee≠0):refCheck F=(nd0,(refS F).ea,(refS F).ee):=by
 unfold refCheck;rw [hv,Whg h];rfl
theorem Vqd{F:Nd}(hv:validB F=true)(h:(refS F).ee=0):refCheck F=(refA F,0,0):=by
 unfold refCheck;rw [hv,Wig h];rfl
theorem Xfd{F:Nd}(hv:validB F=false):refCheck F=(nd0,0,1):=by
 unfold refCheck;rw [hv];rfl
def RChk(F:Nd)(w0:Aa)(r:Fa)(w':Aa):Prop:=(∃ u,r = .tuple #[u,.int .i64 (refCheck F).2.1,.int .i64 (refCheck F).2.2]∧RetN (refCheck F).1 w0.heap.size u w')∧G w0 w'
theorem Xgd{n:Nat}{σ:List Ent}{F:Nd}{w0 w1:Aa}{b2 b3 b4:Nat}{u:Nd}{s x y:Fa}{ch:List Da}{fn:Func}{T:CSt}(hfn:fn.results = #[.cell 2 26,.cell 3 3,.cell 4 30])(hv:validB F=true)
 (h2:look σ 2=some (True,.pointer (some ⟨b2,0,none⟩))) (h3:look σ 3=some (True,.pointer (some ⟨b3,0,none⟩))) (h4:look σ 4=some (True,.pointer (some ⟨b4,0,none⟩))) (B2:Blk w1 b2 26 (ndCells u s)) (B3:Blk w1 b3 3 [x]) (B4:Blk w1 b4 30 [y])
 (hb:w0.heap.size≤b2∧w0.heap.size≤b3∧w0.heap.size≤b4) (g:G w0 w1) (hz:ch=[failE T.ea T.ee]∧T.ee≠0) (hE:Er T (refS F)) :
 ∀ a,Kn n σ a→ZD PP fn (RChk F w0) (fun _ _=>False) ch [fnD 28 #[.pointer (some ⟨b2,0,none⟩),.pointer (some ⟨b3,0,none⟩),.pointer (some ⟨b4,0,none⟩)] #[]] a w1:=by
 obtain ⟨rfl,hne⟩:=hz;obtain ⟨e1,e2⟩:=hE hne;have hr:=Xed hv (by rw [e1];exact hne);refine Yvg Zob J (Vie B2 B3 B4) fun v w2 hv2=>?_;obtain ⟨_,C2,C3,C4,g2⟩:=hv2;refine Ydc (Zka (rs:=[.cell 2 26,.cell 3 3,.cell 4 30]) (vs:=[_,_,_]) hfn J (Zba h2 Zj J (C2.row) (Uyb h3 Yk (C3.at_ J) (Uyb h4 Xqa (C4.at_ J) Ug))) J ?_);refine ⟨⟨_,by rw [hr,e1,e2],by rw [hr];exact Zy (t:=nd0) J (Vj _ _)⟩,?_⟩;exact ⟨g2.os.trans g.os,g2.tape.trans g.tape,g2.output.trans g.output,Aga g.size g2.size,fun k hk=>(g2.block k (Aaa hk g.size) (by intro hm;simp only [Ada,Axa,or_false] at hm;omega)).trans (g.block hk)⟩
theorem Yre{n:Nat}{σ:List Ent}{F:Nd}{w0 w1:Aa}{b2 b3 b4:Nat}{u:Nd}{s x y:Fa}{ch:List Da}{fn:Func}{T:CSt}(hfn:fn.results = #[.cell 2 26,.cell 3 3,.cell 4 30])(hv:validB F=true)
 (h2:look σ 2=some (True,.pointer (some ⟨b2,0,none⟩))) (h3:look σ 3=some (True,.pointer (some ⟨b3,0,none⟩))) (h4:look σ 4=some (True,.pointer (some ⟨b4,0,none⟩))) (B2:Blk w1 b2 26 (ndCells u s)) (B3:Blk w1 b3 3 [x]) (B4:Blk w1 b4 30 [y])
 (hb:w0.heap.size≤b2∧w0.heap.size≤b3∧w0.heap.size≤b4) (g:G w0 w1) (hz:ch=[failE T.ea T.ee]∧T.ee≠0) (hE:Er T (refS F)) :
 ∀ a,Kn n σ a→∀ a',Agr n [2,3,4] a a'→ZD PP fn (RChk F w0) (fun _ _=>False) ch [fnD 28 #[.pointer (some ⟨b2,0,none⟩),.pointer (some ⟨b3,0,none⟩),.pointer (some ⟨b4,0,none⟩)] #[]] a' w1:=fun a ha a' hA =>
 Xgd (σ:=[(2,True,.pointer (some ⟨b2,0,none⟩)),(3,True,.pointer (some ⟨b3,0,none⟩)),(4,True,.pointer (some ⟨b4,0,none⟩))]) hfn hv rfl rfl rfl B2 B3 B4 hb g hz hE a' (hA.kn ha (fun t c v hl=>by
 unfold look at hl;cases e2:Aca 2 t;rw [e2,Wog] at hl;unfold look at hl;cases e3:Aca 3 t;rw [e3,Wog] at hl;unfold look at hl;cases e4:Aca 4 t;rw [e4,Wog] at hl;cases hl;rw [e4,Wpg] at hl;rw [← Aka e4];exact h4.trans hl;rw [e3,Wpg] at hl;rw [← Aka e3];exact h3.trans hl;rw [e2,Wpg] at hl;rw [← Aka e2];exact h2.trans hl) fun t c v hl=>by
 unfold look at hl;cases e2:Aca 2 t;rw [e2,Wog] at hl;unfold look at hl;cases e3:Aca 3 t;rw [e3,Wog] at hl;unfold look at hl;cases e4:Aca 4 t;rw [e4,Wog] at hl;cases hl;rw [← Aka e4];decide;rw [← Aka e3];decide;rw [← Aka e2];decide)
theorem Vrd{M:Nat→Nat→Bool}{n0:Nat}{w w':Aa}(g:GT M n0 w w')(h:n0=w.heap.size):G w w':=⟨g.os,g.tape,g.output,g.size,fun k hk=>g.block k hk (.inl O)⟩
theorem gg_t{M:Nat→Nat→Bool}{n0:Nat}{w0 w w':Aa}(h:G w0 w)(g:GT M n0 w w')(hn:n0=w0.heap.size):G w0 w':=⟨g.os.trans h.os,g.tape.trans h.tape,g.output.trans h.output,Aga h.size g.size,fun k hk=>(g.block k (Aaa hk h.size) (.inl O)).trans (h.block hk)⟩
theorem Jwf{w0 w w':Aa}{ms mg mn mf:Nat}(h:G w0 w)(g:GV (EnV ms mg mn mf) w w')(hm:w0.heap.size≤ms∧w0.heap.size≤mg∧w0.heap.size≤mn∧w0.heap.size≤mf):G w0 w' :=
 ⟨g.os.trans h.os,g.tape.trans h.tape,g.output.trans h.output,Aga h.size (GV.size g),fun k hk=>(g.block k (Aaa hk h.size) (by unfold EnV;omega)).trans (h.block hk)⟩
theorem Blk.gx{w w':Aa}{X:List Nat}{n0 b:Nat}{e:Ba}{l:List Fa}(h:Blk w b e l)(g:GT (mutC X) n0 w w')(hb:b∈X):Blk w' b e l:=(g.block b h.lt (.inr fun ⟨cs,f,fr,_,hm⟩=>by
 unfold mutC at hm;rw [Wig hb] at hm;simp at hm)).trans h
theorem Vsd{F t:Nd}(Z:List Nat)(HF:FW F)(hk:t.kind=2∨t.kind=6∨t.kind=4)(hp:permF t=true)(hct:count t≤1000000){n0 b m0:Nat}{TB X:List Nat}{S:CSt}{w:Aa}{v:Fa}(h:PX F n0 b TB X w)(he:S.ee=0)(hkw:Kd w (fun k=>k<n0) t.kids v)(hZ:∀ j∈Z,j<w.heap.size)(hm:m0≤w.heap.size) :
 RetP PP 31 #[.pointer (some ⟨b,0,none⟩),ndV t v] w (fun r w'=>(∃ p c,r=ndV (dclR F t S).1 (.slice p (dclR F t S).1.kids.length c)∧m0≤w.heap.size∧KdX w.heap.size Z w' (dclR F t S).1.kids (.slice p (dclR F t S).1.kids.length c))∧(dclR F t S).2.ee=0∧PX F n0 b TB X w'∧GT (mutC X) n0 w w') (BadD n0 X (dclR F t S).2 w) :=
 (Yvf HF hk hp hct h he hkw).mono (fun r w' hr=>by
 obtain ⟨h0,⟨p,c,e,k⟩,h1,h2⟩:=hr;exact ⟨⟨p,c,e,hm,KdN.x k hZ⟩,h0,h1,h2⟩) fun _ _ h=>h
theorem Vtd{X:List Nat}{m0:Nat}{w w':Aa}{ks:List Nd}{v s:Fa}(hO:∀ k,s.ownBlock=some k→k<w.heap.size)(k:KdX w.heap.size X w' ks v)(hm:m0≤w.heap.size):∃ lo,(∀ k,s.ownBlock=some k→k<lo)∧m0≤lo∧KdX lo X w' ks v:=⟨_,hO,hm,k⟩
theorem PB.keepc{F:Nd}{n0 b:Nat}{TB X:List Nat}{fv:Fa}{ms mg mn mf:Nat}{pv:Nat→Fa}{sv cv rv:Fa}{w w':Aa}(h:PB F n0 b TB X fv ms mg mn mf pv sv cv rv w){j:Nat}{e:Ba}{cs0:Array Fa}{fr0:Nat×Nat}(hg:w.grownBy w' (some j))(hB:w.heap[j]? = some (.cells cs0 e fr0))(hj:n0≤j)(he:typC e=false∨(j∈X∧j∉TB)):PB F n0 b TB X fv ms mg mn mf pv sv cv rv w':=by
 have hne:j≠b:=fun q=>by
  subst q;rcases he with he|he;have:=h.B;unfold Blk at this;rw [this] at hB;injection hB with hB;injection hB with _ hB;subst hB;exact Ala (show true=false from he);exact h.bx he.1
 have hk:∀ k,k<w.heap.size→k≠j→w'.heap[k]? = w.heap[k]?:=fun k hk hn=>hg.block k hk fun e=>hn (by injection e)
 have m:∀ {k es},MapS w k es→MapS w' k es:=fun hm=>hm.keep hg fun q=>by
  injection q with q;subst q;obtain ⟨ms,c,hb,_⟩:=hm;rw [hb] at hB;injection hB with hB;cases hB
 have hL:Below n0 w w':=⟨hg.os,hg.tape,hg.output,hg.size,fun k hk=>hg.block k (Aaa hk h.L.hn) fun e=>by injection e with e;omega⟩;refine ⟨h.B.keep hg fun e=>hne (by injection e with e;exact e.symm),h.hb,h.kF.keep hg fun k hk _ e=>by injection e with e;omega,h.hF,⟨m h.T.hs,m h.T.hg,m h.T.hn,m h.T.hf,fun s hs=>(h.T.hp s hs).same fun k hkT hlt ⟨cs,fr,hc⟩=>hg.block k hlt fun e=>?_⟩,h.L.below hL,h.tx,fun i hi=>Aaa (h.xl i hi) hg.size,h.bx⟩;injection e with e;subst e;rcases he with he|he;rw [hc] at hB;injection hB with hB;injection hB with _ hB;subst hB;exact Ala (show true=false from he);exact he.2 hkT
theorem PX.keepc{F:Nd}{n0 b:Nat}{TB X:List Nat}{w w':Aa}(h:PX F n0 b TB X w){j:Nat}{e:Ba}{cs0:Array Fa}{fr0:Nat×Nat}(hg:w.grownBy w' (some j))(hB:w.heap[j]? = some (.cells cs0 e fr0))(hj:n0≤j)(he:typC e=false∨(j∈X∧j∉TB)):PX F n0 b TB X w':=by obtain ⟨_,_,_,_,_,_,_,_,_,h⟩:=h;exact (h.keepc hg hB hj he).px
theorem PX.keepO{F:Nd}{n0 b lo:Nat}{TB X Y:List Nat}{w w':Aa}{ks:List Nd}{s:Fa}(h:PX F n0 b TB X w)(hg:w.grownBy w' s.ownBlock)(hO:OwnN Y lo w ks s)(hl:n0≤lo):PX F n0 b TB X w':=by
 cases hs:s.ownBlock with
 | none=>rw [hs] at hg;exact h.grow ⟨hg.os,hg.tape,hg.output,hg.size,fun k hk=>hg.block k hk (fun e=>nomatch e)⟩
 | some k =>
  rw [hs] at hg;obtain ⟨cs,fr,hc⟩:=hO.nd k hs;exact h.keepc hg hc (Aga hl (hO.ge k hs)) (.inl rfl)
theorem Blk.gm{w w':Aa}{b:Nat}{e:Ba}{l:List Fa}{ms mg mn mf:Nat}{e1 e2 e3 e4:List (List UInt8×Fa)}(h:Blk w b e l)(g:GV (EnV ms mg mn mf) w w')(s1:MapS w ms e1)(s2:MapS w mg e2)(s3:MapS w mn e3)(s4:MapS w mf e4):Blk w' b e l :=
 Blk.gb h g fun hv=>by
 rcases hv with q|q|q|q;exact s1.nblk h q.symm;exact s2.nblk h q.symm;exact s3.nblk h q.symm;exact s4.nblk h q.symm
theorem er_m5{F:Nd}{S:CSt}(he:S.ee=0)(h:fncB F [109,97,105,110]=false):Er { S with ea:=0,ee:=5 } (mainS F S):=by
 unfold mainS;unfold fncB at h;rw [Wig (by have:=Wng h;omega),Wpg];rw [show failS 0 5 S = { S with ea:=0,ee:=5 } from Vla he 0 5];exact Er.refl _
theorem er_r5{F:Nd}(hd:∀ j,j<F.kids.length→dupAt F j=false)(he:(dclA F rs0 F.kids.length).2.ee=0)(h:fncB F [109,97,105,110]=false):Er { (dclA F rs0 F.kids.length).2 with ea:=0,ee:=5 } (refS F):=by
 rw [(Zlc hd).1];exact er_m5 he h
theorem Xaf{F:Nd}(HR:FRes F)(h:fncB F [109,97,105,110]=true)(S:CSt):mainS F S=bif (decide (0<((parT (findD F 4 [109,97,105,110]).1).length:Int)) || !tyEqB (resT (findD F 4 [109,97,105,110]).1) ty0) then failS (findD F 4 [109,97,105,110]).1.pos 7 S else S:=by
 unfold fncB at h;unfold mainS;rw [Whg (by have:=Wmg h;omega),Wog,HR _ (Wmg h),Ymb]
theorem Yse{F:Nd}{TB:List Nat}{ms mg mn mf:Nat}{pv:Nat→Fa}{w:Aa}{s:List UInt8}{p:Option Addr}{m c:Nat}(T:Tab F TB ms mg mn mf pv w)(h:fncB F s=true)(hp:pv (findD F 4 s).2.toNat = .slice p m c):m=(parT (findD F 4 s).1).length:=by
 obtain ⟨p',c',e,_⟩:=T.hp s (Wmg h);rw [hp] at e;injection e
theorem Qgf{F:Nd}(hd:∀ j,j<F.kids.length→dupAt F j=false){s:List UInt8}(h:fncB F s=true){i:Nat}(hi:i<F.kids.length)(ht:(Zb F i).text=s):(findD F 4 s).1=Zb F i:=by
 obtain ⟨j,hj,k4,e4,e⟩:=Qza (show 0≤(findD F 4 s).2 from Wmg h);rcases Nat.lt_trichotomy i j with q|q|q;have:=Xcd q hj (ht.trans e4.symm);rw [hd j hj] at this;cases this;subst q;exact e;have:=Xcd q hi (e4.trans ht.symm);rw [hd i hi] at this;cases this
theorem er_r7{F:Nd}(hd:∀ j,j<F.kids.length→dupAt F j=false)(he:(dclA F rs0 F.kids.length).2.ee=0)(HR:FRes F)(h:fncB F [109,97,105,110]=true)(h3:(decide (0<((parT (findD F 4 [109,97,105,110]).1).length:Int)) || !tyEqB (resT (findD F 4 [109,97,105,110]).1) ty0)=true){i:Nat}(hi:i<F.kids.length)(ht:(Zb F i).kind=4∧(Zb F i).text=[109,97,105,110]):Er { (dclA F rs0 F.kids.length).2 with ea:=(Zb F i).pos,ee:=7 } (refS F):=by
 rw [(Zlc hd).1,Xaf HR h,h3,Wpg,Qgf hd h hi ht.2];rw [show failS (Zb F i).pos 7 (dclA F rs0 F.kids.length).2 = { (dclA F rs0 F.kids.length).2 with ea:=(Zb F i).pos,ee:=7 } from Vla he _ _];exact Er.refl _
theorem Ywg{F:Nd}{i:Nat}(h:(!decide ((Zb F i).kind=4) || !decide ((Zb F i).text=[109,97,105,110]))=false):(Zb F i).kind=4∧(Zb F i).text=[109,97,105,110]:=by
 simpa using h
theorem Yxg{F:Nd}{i:Nat}(h:∀ j,j<i→¬ ((Zb F j).kind=4∧(Zb F j).text=[109,97,105,110]))(k:(!decide ((Zb F i).kind=4) || !decide ((Zb F i).text=[109,97,105,110]))=true):∀ j,j<i+1→¬ ((Zb F j).kind=4∧(Zb F j).text=[109,97,105,110]):=fun j hj q=>by
 by_cases e:j=i;subst e;rw [Wig q.1,Wig q.2] at k;cases k;exact h j O q
theorem Jpd(F:Nd)(v:Fa)(D:Nat→Prop)(w:Aa)(hkD:Kd w D F.kids v)(hcn:count F≤1000000)(hL0:LaidW w.heap.size w):RetP PP 13 #[ndV F v] w (RChk F w) fun _ _=>False:=by
 obtain ⟨n0,hn0⟩:∃ n,n=w.heap.size:=⟨_,rfl⟩;have hkw:Kd w (fun k=>k<n0) F.kids v:=Kd.mono hkD fun k _ hlt=>by rw [hn0];exact hlt
 have hk0:=hkw;have hL:LaidW n0 w:=by rw [hn0];exact hL0
 have hLw:=hL;obtain ⟨p,c,rfl,_⟩:=id hkw;have hln:=Vv F;have g:=GT.refl (mutC []) n0 w;refine Wib (m:=86) Tryz.func13 J J [(0,True,_)] (Za J (Zo _)) ?_;refine Wv fun K1 hK1=>?_;refine Wn [1,1,1,1] ?_;refine Xza J (Zc J) J ?_;intro b1 w1 N1;have l1:=Wq N1 g.size;have g:=gtg g N1.g;have hL:=hL.grow (N1.g);have hk0:=hk0.grow (N1.g);have B1:=N1.blk;refine Xi J Zp J ?_;intro b2 w2 N2;have x2_1:=N2.ne B1;have l2:=Wq N2 g.size;have g:=gtg g N2.g;replace B1:=B1.grow (N2.g);have hL:=hL.grow (N2.g);have hk0:=hk0.grow (N2.g);have B2:=N2.blk;refine Xi J Zvc J ?_;intro b3 w3 N3;have x3_1:=N3.ne B1;have x3_2:=N3.ne B2;have l3:=Wq N3 g.size;have g:=gtg g N3.g;replace B1:=B1.grow (N3.g);replace B2:=B2.grow (N3.g);have hL:=hL.grow (N3.g);have hk0:=hk0.grow (N3.g);have B3:=N3.blk;refine Xi J Jgb J ?_;intro b4 w4 N4;have x4_1:=N4.ne B1;have x4_2:=N4.ne B2;have x4_3:=N4.ne B3;have l4:=Wq N4 g.size;have g:=gtg g N4.g;replace B1:=B1.grow (N4.g);replace B2:=B2.grow (N4.g);replace B3:=B3.grow (N4.g);have hL:=hL.grow (N4.g);have hk0:=hk0.grow (N4.g);have B4:=N4.blk;refine Wp [(1,_,_),(2,_,_),(3,_,_),(4,_,_)] (Za J (Za J (Za J (Za J (Zo _))))) ?_;refine Ze (hK1 _ _ _ ?_);refine Wv fun K2 hK2=>?_;refine Wv fun K3 hK3=>?_;refine Wn [0,1,3] ?_;refine Ut J (Zq Zj (Zc J) J (fun _=>B1.row)) ?_;refine Wm J (Yd Xsc Ve (Yi (Zc J) (Xj)) J) (Wke F _ _ _ hL.hL hL.hb hk0 hcn) ?_;rintro v13 w13 ⟨rfl,g13⟩;refine ⟨fun _=>g13,?_⟩;have g:=gtg g g13;replace B1:=B1.grow (g13);replace B2:=B2.grow (g13);replace B3:=B3.grow (g13);replace B4:=B4.grow (g13);have hL:=hL.grow (g13);have hk0:=hk0.grow (g13);refine Zs J (fun _=>Wpc (Zc J)) ?_
 refine Wp [(1,_,_),(2,_,_),(3,_,_),(4,_,_),(14,_,_)] (Za J (Za J (Za J (Za J (Za J (Zo _)))))) ?_;refine Ze (hK3 _ _ _ ?_);refine Whb (Zc J) (fun h1=>?_) (fun h1=>?_)
 ·have hv:validB F=false:=by simpa using h1
  refine Wv fun K4 hK4=>?_;refine Wn [3,2,2,2] ?_;refine Zsa Zp Xt pq0 J J ?_;refine Xn J Xa (Zc J) (Zc J) J J B2 J J ?_;intro wS1 hgS1 hzS1;clear B2;intro B2;replace B1:=B1.keep hgS1 (by intro h;injection h with h;first|exact x2_1 h.symm|exact x1_2 h|omega);replace B3:=B3.keep hgS1 (by intro h;injection h with h;first|exact x2_3 h.symm|exact x3_2 h|omega);replace B4:=B4.keep hgS1 (by intro h;injection h with h;first|exact x2_4 h.symm|exact x4_2 h|omega);have g:=Yg g hgS1 O;refine Xn J Wz (Zc J) Xh J J B3 J J ?_;intro wS2 hgS2 hzS2;clear B3;intro B3;replace B1:=B1.keep hgS2 (by intro h;injection h with h;first|exact x3_1 h.symm|exact x1_3 h|omega);replace B2:=B2.keep hgS2 (by intro h;injection h with h;first|exact x3_2 h.symm|exact x2_3 h|omega);replace B4:=B4.keep hgS2 (by intro h;injection h with h;first|exact x3_4 h.symm|exact x4_3 h|omega);have g:=Yg g hgS2 O;refine Xn J Qia (Zc J) Xh J J B4 J J ?_;intro wS3 hgS3 hzS3;clear B4;intro B4;replace B1:=B1.keep hgS3 (by intro h;injection h with h;first|exact x4_1 h.symm|exact x1_4 h|omega);replace B2:=B2.keep hgS3 (by intro h;injection h with h;first|exact x4_2 h.symm|exact x2_4 h|omega);replace B3:=B3.keep hgS3 (by intro h;injection h with h;first|exact x4_3 h.symm|exact x3_4 h|omega);have g:=Yg g hgS3 O;refine Wp [(1,_,_),(2,_,_),(3,_,_),(4,_,_)] (Za J (Za J (Za J (Za J (Zo _))))) ?_;refine Ze (hK4 _ _ _ ?_);refine Jsb (?_);skip
  refine Ydc (Zka (rs:=[.cell 2 26,.cell 3 3,.cell 4 30]) (vs:=[_,_,_]) J J (Zba J Zj J (by first|exact B1.row|exact B2.row|exact B3.row|exact B4.row) (Uyb J Yk (by first|exact B1.at_ J|exact B2.at_ J|exact B3.at_ J|exact B4.at_ J) (Uyb J Xqa (by first|exact B1.at_ J|exact B2.at_ J|exact B3.at_ J|exact B4.at_ J) (Ug)))) J ?_);exact ⟨⟨_,by rw [Xfd hv],by rw [Xfd hv];exact Zy (t:=nd0) rfl (Vj _ _)⟩,Vrd g hn0⟩
 have hv:validB F=true:=by simpa using h1
 refine Jrb (hK2 _ _ _ ?_);refine Qra [(1,_,_),(2,_,_),(3,_,_),(4,_,_)] (Za J (Za J (Za J (Za J (Zo _))))) ?_;refine Wv fun K5 hK5=>?_;refine Jpa (k:=1) [3,2] J J J ?_;refine Zs J (fun _=>Qyb (Xj) (Yi (Zc J) (Yi (Zc J) (Yi (Zc J) (Xj))))) ?_;refine Ze (Zvd (Vgc (Zc J) (Xj)) (hK5 _ _ _ ?_));refine Qra [(1,_,_),(2,_,_),(3,_,_),(4,_,_)] (Za J (Za J (Za J (Za J (Zo _))))) ?_;refine Wv fun K6 hK6=>?_;refine Wn [0,1,1,1,1,3,1,3] ?_;refine Ut J (Zq Zj (Zc J) J (fun _=>B1.row)) ?_;refine Qwa J ?_;intro m18 w18 em18 g18 z18 s18;have lm18:w.heap.size≤m18:=by have:=g.size;omega
 have g:=g.trans (GT.of_g g18);have B1:=B1.grow g18;have B2:=B2.grow g18;have B3:=B3.grow g18;have B4:=B4.grow g18;have hL:=hL.grow g18;have hk0:=hk0.grow g18;refine Qwa J ?_;intro m19 w19 em19 g19 z19 s19;have lm19:w.heap.size≤m19:=by have:=g.size;omega
 have g:=g.trans (GT.of_g g19);have B1:=B1.grow g19;have B2:=B2.grow g19;have B3:=B3.grow g19;have B4:=B4.grow g19;have hL:=hL.grow g19;have hk0:=hk0.grow g19;have s18:=s18.grow g19;refine Qwa J ?_;intro m20 w20 em20 g20 z20 s20;have lm20:w.heap.size≤m20:=by have:=g.size;omega
 have g:=g.trans (GT.of_g g20);have B1:=B1.grow g20;have B2:=B2.grow g20;have B3:=B3.grow g20;have B4:=B4.grow g20;have hL:=hL.grow g20;have hk0:=hk0.grow g20;have s18:=s18.grow g20;have s19:=s19.grow g20;refine Qwa J ?_;intro m21 w21 em21 g21 z21 s21;have lm21:w.heap.size≤m21:=by have:=g.size;omega
 have g:=g.trans (GT.of_g g21);have B1:=B1.grow g21;have B2:=B2.grow g21;have B3:=B3.grow g21;have B4:=B4.grow g21;have hL:=hL.grow g21;have hk0:=hk0.grow g21;have s18:=s18.grow g21;have s19:=s19.grow g21;have s20:=s20.grow g21;refine Zsa Zwb Zxb (pqc J (pqc J (pqc J (pqc J (pqc J pq0))))) J J ?_;refine Xza J (Zc J) J ?_;intro b23 w23 N23;have x23_1:=N23.ne B1;have x23_2:=N23.ne B2;have x23_3:=N23.ne B3;have x23_4:=N23.ne B4;have l23:=Wq N23 g.size;have g:=gtg g N23.g;replace B1:=B1.grow (N23.g);replace B2:=B2.grow (N23.g);replace B3:=B3.grow (N23.g);replace B4:=B4.grow (N23.g);have hL:=hL.grow (N23.g);have hk0:=hk0.grow (N23.g);have s18:=s18.grow (N23.g);have s19:=s19.grow (N23.g);have s20:=s20.grow (N23.g);have s21:=s21.grow (N23.g);have B23:=N23.blk;skip;refine Zs J (fun _=>Wd (Zc J)) ?_;refine Wp [(1,_,_),(2,_,_),(3,_,_),(4,_,_),(5,_,_)] (Za J (Za J (Za J (Za J (Za J (Zo _)))))) ?_;refine Ze (hK6 _ _ _ ?_);refine Wv fun K7 hK7=>?_;refine Wn [3,2] ?_;refine Zs J (fun _=>Zm (Zc J)) ?_;refine Yra J (Yd Ysb Ve (Yi (Zc J) (Xj)) J) (Vee hv hcn O B23 hk0 hL s18 s19 s20 s21 ⟨⟨O,O,O⟩,⟨O,O⟩,O⟩ ⟨O,O,O,O⟩) ((fun ch w' hz=>Xgd (u:=nd0) (s:=.slice none 0 0) J hv J J J (B2.gm hz.2.2 s18 s19 s20 s21) (B3.gm hz.2.2 s18 s19 s20 s21) (B4.gm hz.2.2 s18 s19 s20 s21) ⟨O,O,O⟩ (Jwf (Vrd g hn0) hz.2.2 ⟨O,O,O,O⟩) ⟨hz.1,hz.2.1⟩ (Qff F))) ?_;rintro v25 w25 ⟨rfl,hdu,⟨m2,pv,TB,hE⟩,g25⟩;refine ⟨fun hc=>absurd hc Od,?_⟩;have hg0:G w w25:=Jwf (Vrd g hn0) g25 ⟨O,O,O,O⟩;have B1:=B1.gm g25 s18 s19 s20 s21
 have B2:=B2.gm g25 s18 s19 s20 s21;have B3:=B3.gm g25 s18 s19 s20 s21;have B4:=B4.gm g25 s18 s19 s20 s21;have hL:=hLw.grow hg0;have hk25:=hkw.grow hg0;have hk0:=hk25;have hlt3:=B3.lt
 have h:PX F n0 b23 TB (b3::TB) w25:=⟨_,_,_,_,_,pv,_,_,_,hE.B,O,hk0,hcn,hE.tab,hL,fun j hj=>Aha _ hj,fun j hj=>(by
  rcases Ada.1 hj with q|q
  · omega
  · exact (hE.tb j q).2),fun hm=>(by
  rcases Ada.1 hm with q|q
  · omega
  · have:=(hE.tb b23 q).1;have:=B23.lt;omega)⟩
 have HF:=fw_of hv hdu;have hTB:∀ j∈TB,b23<j∧j<w25.heap.size:=fun j hj=>⟨by have:=(hE.tb j hj).1;have:=B23.lt;omega,(hE.tb j hj).2⟩;obtain ⟨h1F,hpF⟩:=Vbb hv;have hdc:=Xbc h1F hpF;have g:GT (mutC (b3::TB)) n0 w w25:=GT.of_g hg0;refine Wp [(1,_,_),(2,_,_),(3,_,_),(4,_,_),(5,_,_)] (Za J (Za J (Za J (Za J (Za J (Zo _)))))) ?_;refine Ze (hK7 _ _ _ ?_);refine Wv fun K8 hK8=>?_;refine Wn [0,1,2] ?_;refine Ut J (Zq Zj (Zc J) J (fun _=>B1.row)) ?_;refine Wm J (Yd Zjb Ve (Yi (Zc J) (Xj)) J) (Zqa F _ _ _) ?_;rintro v27 w27 ⟨rfl,g27⟩;refine ⟨fun _=>g27,?_⟩;have g:=gtg g g27;replace B1:=B1.grow (g27);replace B2:=B2.grow (g27);replace B3:=B3.grow (g27);replace B4:=B4.grow (g27);have hk0:=hk0.grow (g27);have h:=h.grow (g27);refine Xn J Xa (Zc J) (Zc J) J J B2 J J ?_;intro wS4 hgS4 hzS4;have C2:=B2;clear B2;intro B2;replace B1:=B1.keep hgS4 (by intro h;injection h with h;first|exact x2_1 h.symm|exact x1_2 h|omega);replace B3:=B3.keep hgS4 (by intro h;injection h with h;first|exact x2_3 h.symm|exact x3_2 h|omega);replace B4:=B4.keep hgS4 (by intro h;injection h with h;first|exact x2_4 h.symm|exact x4_2 h|omega);have g:=Yg g hgS4 O;have h:=h.keep hgS4 C2 O (by first|exact .inl rfl|exact .inr ⟨by simp,fun hm=>by have:=hTB _ hm;omega⟩);have hk0:=hk0.keep hgS4 (fun k hk _ e=>by injection e with e;omega);refine Wp [(1,_,_),(2,_,_),(3,_,_),(4,_,_),(5,_,_)] (Za J (Za J (Za J (Za J (Za J (Zo _)))))) ?_;refine Ze (hK8 _ _ _ ?_);refine Wv fun K9 hK9=>?_;refine Wv fun K10 hK10=>?_;refine Wn [3,0,3,3] ?_;refine Zs J (fun _=>Zg Zf (Zc J)) ?_;refine Ut J (Zw Zi (Zc J) (fun _=>B1.at_ J)) ?_;refine Waa Zd J ?_
 refine Zs J (fun _=>Zm Xh) ?_;refine Wp [(1,_,_),(2,_,_),(3,_,_),(4,_,_),(5,_,_),(29,_,_),(30,_,_),(31,_,_)] (Za J (Za J (Za J (Za J (Za J (Za J (Za J (Za J (Zo _))))))))) ?_;refine Ze (hK10 _ _ _ ?_);refine Vmb ?_;refine Jpc (fun (i:Nat) u1=>(i≤F.kids.length∧(dclA F rs0 i).2.ee=0∧PX F n0 b23 TB (b3::TB) u1∧∃ s,Blk u1 b2 26 (ndCells (clnT F) s)∧OwnN [b1,b2,b3,b4] w.heap.size u1 (dclA F rs0 i).1 s)∧GT (mutC (b3::TB)) n0 w u1) _ [(1,True,_),(2,True,_),(3,True,_),(4,True,_),(5,True,_),(29,True,_),(30,True,_)] (fun (i:Nat)=>[(31,True,.int .i64 i)]) (fun (i:Nat)=>F.kids.length-i) (0) ⟨⟨Aia _,rfl,h,_,B2,Jo _ _ _⟩,g⟩ (Ya (blkE B1) (Ya (blkE B3) (Ya (blkE B4) (Xg _)))) (Za J (Za J (Za J (Za J (Za J (Za J (Za J (Za J (Zo _))))))))) ?_;clear B1 B2 B3 B4;rintro i u1 ⟨hI1,gl1⟩ ⟨B1,B3,B4,_⟩;replace B1:Blk _ _ _ _:=B1;replace B3:Blk _ _ _ _:=B3;replace B4:Blk _ _ _ _:=B4;have g:=gl1;obtain ⟨hi,hei,h,s,B2,hO⟩:=hI1;obtain ⟨sa,sc,rfl⟩:=hO.slice;have hk0:=hkw.gt gl1 (fun k h=>h);have hlen:=Jrc F rs0 i;refine Wv fun K11 hK11=>?_;refine Wn [3] ?_;refine Zs J (fun _=>Uib (Zc J) (Zc J)) ?_;refine Ze (hK11 _ _ _ ?_);refine Qra [(1,_,_),(2,_,_),(3,_,_),(4,_,_),(5,_,_),(29,_,_),(30,_,_),(31,_,_),(32,_,_)] (Za J (Za J (Za J (Za J (Za J (Za J (Za J (Za J (Za J (Zo _)))))))))) ?_;refine Wv fun K12 hK12=>?_;refine Whb (Zc J) (fun h2=>?_) (fun h2=>?_)
 ·replace h2:i<F.kids.length:=by simp only [Wkg] at h2;omega
  obtain ⟨e0,p1,c1,hcell,hkid⟩:=Yy hk0 (i:=i) h2;obtain ⟨hdk,hdp⟩:=hdc _ (Zdb h2);have hcd:=Vo h2;refine Jrb (hK12 _ _ _ ?_);refine Qra [(1,_,_),(2,_,_),(3,_,_),(4,_,_),(5,_,_),(29,_,_),(30,_,_),(31,_,_)] (Za J (Za J (Za J (Za J (Za J (Za J (Za J (Za J (Zo _))))))))) ?_;refine Wv fun K13 hK13=>?_;refine Vmb ?_;refine Wv fun K14 hK14=>?_;refine Wn [3,0,1,2] ?_;refine Xsa Zd J J O e0 ?_;refine Ut J (Zq Zj (Zc J) J (fun _=>hcell)) ?_;refine Xi J Zp J ?_;intro b7 w7 N7;have x7_1:=N7.ne B1;have x7_2:=N7.ne B2;have x7_3:=N7.ne B3;have x7_4:=N7.ne B4;have l7:=Wq N7 g.size;have hO:=hO.new N7;have g:=gtg g N7.g;replace B1:=B1.grow (N7.g);replace B2:=B2.grow (N7.g);replace B3:=B3.grow (N7.g);replace B4:=B4.grow (N7.g);have h:=h.grow (N7.g);have hkid:=hkid.grow (N7.g);have B7:=N7.blk;refine Xn J Xa (Zc J) (Zc J) J J B7 J J ?_;intro wS5 hgS5 hzS5;have C7:=B7;clear B7;intro B7;replace B1:=B1.keep hgS5 (by intro h;injection h with h;first|exact x7_1 h.symm|exact x1_7 h|omega);replace B2:=B2.keep hgS5 (by intro h;injection h with h;first|exact x7_2 h.symm|exact x2_7 h|omega);replace B3:=B3.keep hgS5 (by intro h;injection h with h;first|exact x7_3 h.symm|exact x3_7 h|omega);replace B4:=B4.keep hgS5 (by intro h;injection h with h;first|exact x7_4 h.symm|exact x4_7 h|omega);have g:=Yg g hgS5 O;have h:=h.keep hgS5 C7 O (by first|exact .inl rfl|exact .inr ⟨by simp,fun hm=>by have:=hTB _ hm;omega⟩);have hkid:=hkid.keep hgS5 (fun k hk _ e=>by injection e with e;omega);have hO:=hO.keep hgS5 Os
  refine Wp [(1,_,_),(2,_,_),(3,_,_),(4,_,_),(5,_,_),(7,_,_),(29,_,_),(30,_,_),(31,_,_)] (Za J (Za J (Za J (Za J (Za J (Za J (Za J (Za J (Za J (Zo _)))))))))) ?_;refine Ze (hK14 _ _ _ ?_);refine Jmd [2,3,4] (gtC (b3::TB) n0) [3,0,3,0,1,3,1,2,3,2,3,2] [0,1,0,0,12,3,0,127,255,511,255,1279] mix KR [0,1,2,3,4,5,6,7,8,9,10,11] J J ?_;have g:=gtd g;replace B1:=B1.grow (G.drew _);replace B2:=B2.grow (G.drew _);replace B3:=B3.grow (G.drew _);replace B4:=B4.grow (G.drew _);replace B7:=B7.grow (G.drew _);have s18:=s18.grow (G.drew _);have s19:=s19.grow (G.drew _);have s20:=s20.grow (G.drew _);have s21:=s21.grow (G.drew _);have h:=h.grow (G.drew _);have hkid:=hkid.grow (G.drew _);have hO:=hO.grow (G.drew _);refine Uwa (L':=[1,2,3,4,5,6,7,8,9,10,11]) 0 J J J (fun _=>Zg Zf (Zc J)) ?_;refine Jbb (L':=[2,3,4,5,6,7,8,9,10,11]) 1 J J J (fun w1 hx=>Zw Zi (Zc J) (fun _=>(B2.gt hx J).at_ J)) ?_;refine Uwa (L':=[3,4,5,6,7,8,9,10,11]) 2 J J J (fun _=>Zm (Zc J)) ?_;refine Jbb (L':=[4,5,6,7,8,9,10,11]) 3 J J J (fun w1 hx=>Zq Zj (Zc J) J (fun _=>(B7.gt hx J).row)) ?_;refine Uwa (L':=[4,6,7,8,9,10,11]) 5 J J J (fun _=>Uwb Zd (Zc J)) ?_;refine Wha 4 6 J J ?_ ?_
  ·refine Zh (L':=[6,7,8,9,10,11]) [3,0,3,0,2,3,1,2,3,2,3,2] rfl rfl rfl ?_
   have hOlt:=hO.lt;refine Yra J (Yd Yca Ve (Yi (Zc J) (Yi (Zc J) (Xj))) J) (Vsd [b1,b2,b3,b4,b7] HF hdk hdp O h hei hkid (Afa.2 ⟨B1.lt,Afa.2 ⟨B2.lt,Afa.2 ⟨B3.lt,Afa.2 ⟨B4.lt,Afa.2 ⟨B7.lt,Bfa _⟩⟩⟩⟩⟩) g.size) ((fun ch w' hz=>Yre J hv J J J (B2.gt hz.2.2 J) (B3.gx hz.2.2 Os) (B4.gt hz.2.2 J) ⟨O,O,O⟩ (gg_t (Vrd g hn0) hz.2.2 hn0) ⟨hz.1,hz.2.1⟩ (Yzf hdu h2))) ?_;rintro v39 w39 ⟨⟨p39,c39,rfl,q39,k39⟩,he39,h,g39⟩;refine ⟨nw1,?_⟩;have g:=gtw g g39;try replace B1:=B1.gt g39 rfl
   try replace B2:=B2.gt g39 rfl
   try replace B4:=B4.gt g39 rfl
   try replace B7:=B7.gt g39 rfl
   have hO:=hO.gt g39 rfl;have B3:=B3.gx g39 Os;obtain ⟨lo39,hs0,hm39,k39⟩:=Vtd hOlt k39 q39;refine Zr (g39) ?_;refine Zk 6 J J ?_;refine Zh (L':=[7,8,9,10,11]) [3,0,3,0,2,3,1,2,3,2,3,2] J J J ?_;refine Yf _ J Zd Zp (pqc J pq0) J J ?_;intro b41 w41 N41;have x41_1:=N41.ne B1;have x41_2:=N41.ne B2;have x41_3:=N41.ne B3;have x41_4:=N41.ne B4;have x41_7:=N41.ne B7;have l41:=Wq N41 g.size;have hO:=hO.new N41;have k39:=k39.new N41;have g:=gtg g N41.g;replace B1:=B1.grow (N41.g);replace B2:=B2.grow (N41.g);replace B3:=B3.grow (N41.g);replace B4:=B4.grow (N41.g);replace B7:=B7.grow (N41.g);have h:=h.grow (N41.g);have B41:=N41.blk;refine Zr (GT.of_g (N41.g)) ?_;refine Zk 7 J J ?_;refine Yb (L':=[8,9,10,11]) [3,0,3,0,2,3,1,2,3,2,3,2] J J J J ?_;refine Xrc J Zd Zp J (Zc J) hO (Zc J) J B41.row (Ys (t:=nd0) (v:=.slice none 0 0) (Yhc _ _)) (by simp;omega) (by have:=g.size;omega) ⟨by have:=g.size;omega,by have q1:=B1.lt;have q2:=B2.lt;have q3:=B3.lt;have q4:=B4.lt;have q7:=B7.lt;have q41:=B41.lt;simp;omega⟩ ?_;intro a42 c42 w42 hO2 hg42 hat42;have B1:=B1.keep hg42 (hO.ne Os);have B2:=B2.keep hg42 (hO.ne Os);have B3:=B3.keep hg42 (hO.ne Os);have B4:=B4.keep hg42 (hO.ne Os);have g:=Wk g hg42 (fun k hk=>hO.ge k hk);have h:=h.keepO hg42 hO O;try obtain ⟨k39,hs1⟩:=k39.app hO (fun k hk=>.inr (hs0 k hk)) hg42 hat42
   replace hO:=hO2;refine Yl ?_;have n7:=hO.ne (b:=b7) Os;have n41:=hO.ne (b:=b41) Os;have hO:=hO.sub (Y:=[b1,b2,b3,b4]) Oj;obtain ⟨g42,c43,l42,es,_⟩:=hO.setl;injection es with e1 _ e2;subst e1 e2;refine Uwa (L':=[9,10,11]) 8 J J J (fun _=>Vaa Zd (Zc J) (Zc J) (fun _=>by simp;omega)) ?_;refine Uwa (L':=[9,11]) 10 J J J (fun _=>Zg Zf (Zc J)) ?_;refine Wha 9 11 J J ?_ ?_
   ·refine Yb (L':=[11]) [3,0,3,0,2,3,1,2,3,2,3,2] rfl rfl rfl rfl ?_
    obtain ⟨g43,c44,l43,es3,hBg,hfit,hgx,hgl,hset⟩:=hO.setl;injection es3 with e3 _ e4;injection e3 with e3;injection e3 with e3 _ _;subst e3 e4;have eo:0+((dclA F rs0 i).1.length:Int).toNat*9=(dclA F rs0 i).1.length*9:=by rw [Asa];omega
    refine Xo J Xa (Zc J) (Zc J) J J hBg (Nat.ble_eq.mpr (by rw [eo];exact hfit)) J ?_;intro wS hgS hzS BS;rw [eo] at BS;have hO:=hset hgS BS (Vc k39 hm39 Oj hs1);have B1:=B1.keep hgS (fun e=>hgx (by injection e with e;simp [← e]));have B2:=B2.keep hgS (fun e=>hgx (by injection e with e;simp [← e]));have B3:=B3.keep hgS (fun e=>hgx (by injection e with e;simp [← e]));have B4:=B4.keep hgS (fun e=>hgx (by injection e with e;simp [← e]));have g:=Yg g hgS hgl;have h:=h.keep hgS hBg O (.inl rfl);refine Yl ?_;refine Zk 11 J J ?_;refine Yb (L':=[]) [3,0,3,0,2,3,1,2,3,2,3,2] J J J J ?_;refine Yc J Qf (Zc J) (Zc J) J B2 J J ?_;intro wS7 hgS7 hzS7;have C2:=B2;clear B2;intro B2;replace B1:=B1.keep hgS7 (by intro h;injection h with h;first|exact x2_1 h.symm|exact x1_2 h|omega);replace B3:=B3.keep hgS7 (by intro h;injection h with h;first|exact x2_3 h.symm|exact x3_2 h|omega);replace B4:=B4.keep hgS7 (by intro h;injection h with h;first|exact x2_4 h.symm|exact x4_2 h|omega);have g:=Yg g hgS7 O;have h:=h.keep hgS7 C2 O (by first|exact .inl rfl|exact .inr ⟨by simp,fun hm=>by have:=hTB _ hm;omega⟩);have hO:=hO.keep hgS7 Os;refine Yl ?_;refine Uea [(1,_,_),(2,_,_),(3,_,_),(4,_,_),(5,_,_),(29,_,_),(30,_,_),(31,_,_)] (Za J (Za J (Za J (Za J (Za J (Za J (Za J (Za J (Zo _))))))))) ?_;refine Qe (hK13 _ _ _ ?_);refine Wn [3,3] ?_;refine Vta J J O ?_;refine Zs J (fun _=>Zm (Zc J)) ?_;refine Wp [(31,_,_),(1,_,_),(2,_,_),(3,_,_),(4,_,_),(5,_,_),(29,_,_),(30,_,_)] (Za J (Za J (Za J (Za J (Za J (Za J (Za J (Za J (Zo _))))))))) ?_;refine Ze (fun a ha=>?_);refine ⟨rfl,?_⟩
    exact ⟨i+1,ha,⟨⟨h2,he39,h,_,B2,(by have q:=hO;simp only [Aea,Ata] at q ⊢;exact q)⟩,g⟩,(Ya (blkE B1) (Ya (blkE B3) (Ya (blkE B4) (Xg _)))),O⟩
   ·refine Yb (L':=[9]) [3,0,3,0,2,3,1,2,3,2,3,2] rfl rfl rfl rfl ?_
    refine Yc J Qf (Zc J) (Zc J) J B2 J J ?_;intro wS6 hgS6 hzS6;have C2:=B2;clear B2;intro B2;replace B1:=B1.keep hgS6 (by intro h;injection h with h;first|exact x2_1 h.symm|exact x1_2 h|omega);replace B3:=B3.keep hgS6 (by intro h;injection h with h;first|exact x2_3 h.symm|exact x3_2 h|omega);replace B4:=B4.keep hgS6 (by intro h;injection h with h;first|exact x2_4 h.symm|exact x4_2 h|omega);have g:=Yg g hgS6 O;have h:=h.keep hgS6 C2 O (by first|exact .inl rfl|exact .inr ⟨by simp,fun hm=>by have:=hTB _ hm;omega⟩);have hO:=hO.keep hgS6 Os;have k39:=k39.keep hgS6 Oi;refine Yl ?_;refine Zk 9 J J ?_;refine Yb (L':=[]) [3,0,3,0,2,3,1,2,3,2,3,2] J J J J ?_;obtain ⟨g43,c44,l43,es3,hBg,hfit,hgx,hgl,hset⟩:=hO.setl;injection es3 with e3 _ e4;injection e3 with e3;injection e3 with e3 _ _;subst e3 e4;have eo:0+((dclA F rs0 i).1.length:Int).toNat*9=(dclA F rs0 i).1.length*9:=by rw [Asa];omega
    refine Xo J Xa (Zc J) (Zc J) J J hBg (Nat.ble_eq.mpr (by rw [eo];exact hfit)) J ?_;intro wS hgS hzS BS;rw [eo] at BS;have hO:=hset hgS BS (Vc k39 hm39 Oj hs1);have B1:=B1.keep hgS (fun e=>hgx (by injection e with e;simp [← e]));have B2:=B2.keep hgS (fun e=>hgx (by injection e with e;simp [← e]));have B3:=B3.keep hgS (fun e=>hgx (by injection e with e;simp [← e]));have B4:=B4.keep hgS (fun e=>hgx (by injection e with e;simp [← e]));have g:=Yg g hgS hgl;have h:=h.keep hgS hBg O (.inl rfl);refine Yl ?_;refine Uea [(1,_,_),(2,_,_),(3,_,_),(4,_,_),(5,_,_),(29,_,_),(30,_,_),(31,_,_)] (Za J (Za J (Za J (Za J (Za J (Za J (Za J (Za J (Zo _))))))))) ?_;refine Qe (hK13 _ _ _ ?_);refine Wn [3,3] ?_;refine Vta J J O ?_;refine Zs J (fun _=>Zm (Zc J)) ?_;refine Wp [(31,_,_),(1,_,_),(2,_,_),(3,_,_),(4,_,_),(5,_,_),(29,_,_),(30,_,_)] (Za J (Za J (Za J (Za J (Za J (Za J (Za J (Za J (Zo _))))))))) ?_;refine Ze (fun a ha=>?_);refine ⟨rfl,?_⟩;exact ⟨i+1,ha,⟨⟨h2,he39,h,_,B2,(by have q:=hO;simp only [Aea,Ata] at q ⊢;exact q)⟩,g⟩,(Ya (blkE B1) (Ya (blkE B3) (Ya (blkE B4) (Xg _)))),O⟩
  ·refine Zh (L':=[4,7,8,9,10,11]) [3,0,3,0,2,3,1,2,3,2,3,2] rfl rfl rfl ?_
   refine Yf _ J Zd Zp (pqc J pq0) J J ?_;intro b41 w41 N41;have x41_1:=N41.ne B1;have x41_2:=N41.ne B2;have x41_3:=N41.ne B3;have x41_4:=N41.ne B4;have x41_7:=N41.ne B7;have l41:=Wq N41 g.size;have hO:=hO.new N41;have g:=gtg g N41.g;replace B1:=B1.grow (N41.g);replace B2:=B2.grow (N41.g);replace B3:=B3.grow (N41.g);replace B4:=B4.grow (N41.g);replace B7:=B7.grow (N41.g);have h:=h.grow (N41.g);have hkid:=hkid.grow (N41.g);have B41:=N41.blk;refine Zr (GT.of_g (N41.g)) ?_;refine Zk 4 J J ?_;refine Zh (L':=[7,8,9,10,11]) [3,0,3,0,2,3,1,2,3,2,3,2] J J J ?_;have hOlt:=hO.lt;refine Yra J (Yd Yca Ve (Yi (Zc J) (Yi (Zc J) (Xj))) J) (Vsd [b1,b2,b3,b4,b7] HF hdk hdp O h hei hkid (Afa.2 ⟨B1.lt,Afa.2 ⟨B2.lt,Afa.2 ⟨B3.lt,Afa.2 ⟨B4.lt,Afa.2 ⟨B7.lt,Bfa _⟩⟩⟩⟩⟩) g.size) ((fun ch w' hz=>Yre J hv J J J (B2.gt hz.2.2 J) (B3.gx hz.2.2 Os) (B4.gt hz.2.2 J) ⟨O,O,O⟩ (gg_t (Vrd g hn0) hz.2.2 hn0) ⟨hz.1,hz.2.1⟩ (Yzf hdu h2))) ?_;rintro v39 w39 ⟨⟨p39,c39,rfl,q39,k39⟩,he39,h,g39⟩;refine ⟨nw1,?_⟩;have g:=gtw g g39;try replace B1:=B1.gt g39 rfl
   try replace B2:=B2.gt g39 rfl
   try replace B4:=B4.gt g39 rfl
   try replace B7:=B7.gt g39 rfl
   try replace B41:=B41.gt g39 rfl
   have hO:=hO.gt g39 rfl;have B3:=B3.gx g39 Os;obtain ⟨lo39,hs0,hm39,k39⟩:=Vtd hOlt k39 q39;refine Zr (g39) ?_;refine Zk 7 J J ?_;refine Yb (L':=[8,9,10,11]) [3,0,3,0,2,3,1,2,3,2,3,2] J J J J ?_;refine Xrc J Zd Zp J (Zc J) hO (Zc J) J B41.row (Ys (t:=nd0) (v:=.slice none 0 0) (Yhc _ _)) (by simp;omega) (by have:=g.size;omega) ⟨by have:=g.size;omega,by have q1:=B1.lt;have q2:=B2.lt;have q3:=B3.lt;have q4:=B4.lt;have q7:=B7.lt;have q41:=B41.lt;simp;omega⟩ ?_;intro a42 c42 w42 hO2 hg42 hat42;have B1:=B1.keep hg42 (hO.ne Os);have B2:=B2.keep hg42 (hO.ne Os);have B3:=B3.keep hg42 (hO.ne Os);have B4:=B4.keep hg42 (hO.ne Os);have g:=Wk g hg42 (fun k hk=>hO.ge k hk);have h:=h.keepO hg42 hO O;try obtain ⟨k39,hs1⟩:=k39.app hO (fun k hk=>.inr (hs0 k hk)) hg42 hat42
   replace hO:=hO2;refine Yl ?_;have n7:=hO.ne (b:=b7) Os;have n41:=hO.ne (b:=b41) Os;have hO:=hO.sub (Y:=[b1,b2,b3,b4]) Oj;obtain ⟨g42,c43,l42,es,_⟩:=hO.setl;injection es with e1 _ e2;subst e1 e2;refine Uwa (L':=[9,10,11]) 8 J J J (fun _=>Vaa Zd (Zc J) (Zc J) (fun _=>by simp;omega)) ?_;refine Uwa (L':=[9,11]) 10 J J J (fun _=>Zg Zf (Zc J)) ?_;refine Wha 9 11 J J ?_ ?_
   ·refine Yb (L':=[11]) [3,0,3,0,2,3,1,2,3,2,3,2] rfl rfl rfl rfl ?_
    obtain ⟨g43,c44,l43,es3,hBg,hfit,hgx,hgl,hset⟩:=hO.setl;injection es3 with e3 _ e4;injection e3 with e3;injection e3 with e3 _ _;subst e3 e4;have eo:0+((dclA F rs0 i).1.length:Int).toNat*9=(dclA F rs0 i).1.length*9:=by rw [Asa];omega
    refine Xo J Xa (Zc J) (Zc J) J J hBg (Nat.ble_eq.mpr (by rw [eo];exact hfit)) J ?_;intro wS hgS hzS BS;rw [eo] at BS;have hO:=hset hgS BS (Vc k39 hm39 Oj hs1);have B1:=B1.keep hgS (fun e=>hgx (by injection e with e;simp [← e]));have B2:=B2.keep hgS (fun e=>hgx (by injection e with e;simp [← e]));have B3:=B3.keep hgS (fun e=>hgx (by injection e with e;simp [← e]));have B4:=B4.keep hgS (fun e=>hgx (by injection e with e;simp [← e]));have g:=Yg g hgS hgl;have h:=h.keep hgS hBg O (.inl rfl);refine Yl ?_;refine Zk 11 J J ?_;refine Yb (L':=[]) [3,0,3,0,2,3,1,2,3,2,3,2] J J J J ?_;refine Yc J Qf (Zc J) (Zc J) J B2 J J ?_;intro wS7 hgS7 hzS7;have C2:=B2;clear B2;intro B2;replace B1:=B1.keep hgS7 (by intro h;injection h with h;first|exact x2_1 h.symm|exact x1_2 h|omega);replace B3:=B3.keep hgS7 (by intro h;injection h with h;first|exact x2_3 h.symm|exact x3_2 h|omega);replace B4:=B4.keep hgS7 (by intro h;injection h with h;first|exact x2_4 h.symm|exact x4_2 h|omega);have g:=Yg g hgS7 O;have h:=h.keep hgS7 C2 O (by first|exact .inl rfl|exact .inr ⟨by simp,fun hm=>by have:=hTB _ hm;omega⟩);have hO:=hO.keep hgS7 Os;refine Yl ?_;refine Uea [(1,_,_),(2,_,_),(3,_,_),(4,_,_),(5,_,_),(29,_,_),(30,_,_),(31,_,_)] (Za J (Za J (Za J (Za J (Za J (Za J (Za J (Za J (Zo _))))))))) ?_;refine Qe (hK13 _ _ _ ?_);refine Wn [3,3] ?_;refine Vta J J O ?_;refine Zs J (fun _=>Zm (Zc J)) ?_;refine Wp [(31,_,_),(1,_,_),(2,_,_),(3,_,_),(4,_,_),(5,_,_),(29,_,_),(30,_,_)] (Za J (Za J (Za J (Za J (Za J (Za J (Za J (Za J (Zo _))))))))) ?_;refine Ze (fun a ha=>?_);refine ⟨rfl,?_⟩
    exact ⟨i+1,ha,⟨⟨h2,he39,h,_,B2,(by have q:=hO;simp only [Aea,Ata] at q ⊢;exact q)⟩,g⟩,(Ya (blkE B1) (Ya (blkE B3) (Ya (blkE B4) (Xg _)))),O⟩
   ·refine Yb (L':=[9]) [3,0,3,0,2,3,1,2,3,2,3,2] rfl rfl rfl rfl ?_
    refine Yc J Qf (Zc J) (Zc J) J B2 J J ?_;intro wS6 hgS6 hzS6;have C2:=B2;clear B2;intro B2;replace B1:=B1.keep hgS6 (by intro h;injection h with h;first|exact x2_1 h.symm|exact x1_2 h|omega);replace B3:=B3.keep hgS6 (by intro h;injection h with h;first|exact x2_3 h.symm|exact x3_2 h|omega);replace B4:=B4.keep hgS6 (by intro h;injection h with h;first|exact x2_4 h.symm|exact x4_2 h|omega);have g:=Yg g hgS6 O;have h:=h.keep hgS6 C2 O (by first|exact .inl rfl|exact .inr ⟨by simp,fun hm=>by have:=hTB _ hm;omega⟩);have hO:=hO.keep hgS6 Os;have k39:=k39.keep hgS6 Oi;refine Yl ?_;refine Zk 9 J J ?_;refine Yb (L':=[]) [3,0,3,0,2,3,1,2,3,2,3,2] J J J J ?_;obtain ⟨g43,c44,l43,es3,hBg,hfit,hgx,hgl,hset⟩:=hO.setl;injection es3 with e3 _ e4;injection e3 with e3;injection e3 with e3 _ _;subst e3 e4;have eo:0+((dclA F rs0 i).1.length:Int).toNat*9=(dclA F rs0 i).1.length*9:=by rw [Asa];omega
    refine Xo J Xa (Zc J) (Zc J) J J hBg (Nat.ble_eq.mpr (by rw [eo];exact hfit)) J ?_;intro wS hgS hzS BS;rw [eo] at BS;have hO:=hset hgS BS (Vc k39 hm39 Oj hs1);have B1:=B1.keep hgS (fun e=>hgx (by injection e with e;simp [← e]));have B2:=B2.keep hgS (fun e=>hgx (by injection e with e;simp [← e]));have B3:=B3.keep hgS (fun e=>hgx (by injection e with e;simp [← e]));have B4:=B4.keep hgS (fun e=>hgx (by injection e with e;simp [← e]));have g:=Yg g hgS hgl;have h:=h.keep hgS hBg O (.inl rfl);refine Yl ?_;refine Uea [(1,_,_),(2,_,_),(3,_,_),(4,_,_),(5,_,_),(29,_,_),(30,_,_),(31,_,_)] (Za J (Za J (Za J (Za J (Za J (Za J (Za J (Za J (Zo _))))))))) ?_;refine Qe (hK13 _ _ _ ?_);refine Wn [3,3] ?_;refine Vta J J O ?_;refine Zs J (fun _=>Zm (Zc J)) ?_;refine Wp [(31,_,_),(1,_,_),(2,_,_),(3,_,_),(4,_,_),(5,_,_),(29,_,_),(30,_,_)] (Za J (Za J (Za J (Za J (Za J (Za J (Za J (Za J (Zo _))))))))) ?_;refine Ze (fun a ha=>?_);refine ⟨rfl,?_⟩;exact ⟨i+1,ha,⟨⟨h2,he39,h,_,B2,(by have q:=hO;simp only [Aea,Ata] at q ⊢;exact q)⟩,g⟩,(Ya (blkE B1) (Ya (blkE B3) (Ya (blkE B4) (Xg _)))),O⟩
 replace h2:i=F.kids.length:=by simp only [Wlg] at h2;omega
 subst h2;refine Uue J (hK9 _ _ _ ?_);refine Qra [(1,_,_),(2,_,_),(3,_,_),(4,_,_),(5,_,_)] (Za J (Za J (Za J (Za J (Za J (Zo _)))))) ?_;refine Wv fun K15 hK15=>?_;refine Wn [3,3,3,0,0,3,3,3,1,2,3] ?_;obtain ⟨fv,ns,ng,nn,nf,qv,sv,cv,rv,hP⟩:=id h;obtain ⟨fk,fp,fm,fc,fy,ef,hfb⟩:=Ujc hP.T [109,97,105,110];refine Zs J (fun _=>Zm (Zc J)) ?_;refine Zs J (fun _=>Xia (Zc J)) ?_;refine Zs J (fun _=>Zg Jk (Zc J)) ?_;refine Ut J (Zw Vm (Zc J) (fun _=>hP.B.at_ J)) ?_;refine Ut J (Jad ef hP.T.hf (Zc J) Xh) ?_;refine Zs J (fun _=>Zm (Zc J)) ?_;refine Zs J (fun _=>Jw (Zc J) J) ?_;refine Zs J (fun _=>Jw (Zc J) J) ?_;refine Xi J Qg J ?_;intro b8 w8 N8;have x8_1:=N8.ne B1;have x8_2:=N8.ne B2;have x8_3:=N8.ne B3;have x8_4:=N8.ne B4;have l8:=Wq N8 g.size;have hO:=hO.new N8;have g:=gtg g N8.g;replace B1:=B1.grow (N8.g);replace B2:=B2.grow (N8.g);replace B3:=B3.grow (N8.g);replace B4:=B4.grow (N8.g);have hk0:=hk0.grow (N8.g);have h:=h.grow (N8.g);have B8:=N8.blk;refine Xn J Yla (Zc J) (Zc J) J J B8 J J ?_;intro wS8 hgS8 hzS8;have C8:=B8;clear B8;intro B8;replace B1:=B1.keep hgS8 (by intro h;injection h with h;first|exact x8_1 h.symm|exact x1_8 h|omega);replace B2:=B2.keep hgS8 (by intro h;injection h with h;first|exact x8_2 h.symm|exact x2_8 h|omega);replace B3:=B3.keep hgS8 (by intro h;injection h with h;first|exact x8_3 h.symm|exact x3_8 h|omega);replace B4:=B4.keep hgS8 (by intro h;injection h with h;first|exact x8_4 h.symm|exact x4_8 h|omega);have g:=Yg g hgS8 O;have h:=h.keep hgS8 C8 O (by first|exact .inl rfl|exact .inr ⟨by simp,fun hm=>by have:=hTB _ hm;omega⟩)
 have hk0:=hk0.keep hgS8 (fun k hk _ e=>by injection e with e;omega);have hO:=hO.keep hgS8 Os;refine Zs J (fun _=>Wd (Zc J)) ?_;refine Wp [(1,_,_),(2,_,_),(3,_,_),(4,_,_),(8,_,_),(9,_,_)] (Za J (Za J (Za J (Za J (Za J (Za J (Zo _))))))) ?_;refine Ze (hK15 _ _ _ ?_);refine Wv fun K16 hK16=>?_;refine Wn [3,1] ?_;refine Zs J (fun _=>Zm (Zc J)) ?_;refine Yra J (Yd Yj Ve (Yi (Zc J) (Yi Xh (Yi Xh (Xj)))) J) (Vw _ _ _ _) ((fun ch w' hz=>Xgd J hv J J J (B2.grow hz.2.2) (B3.grow hz.2.2) (B4.grow hz.2.2) ⟨O,O,O⟩ (Vrd (g.trans (GT.of_g hz.2.2)) hn0) (T:={ (dclA F rs0 F.kids.length).2 with ea:=0,ee:=5 }) ⟨hz.2.1,by show ¬ (5:Int)=0;decide⟩ (er_r5 hdu hei hz.1))) ?_;rintro v55 w55 ⟨rfl,hq55,g55⟩;refine ⟨fun _=>g55,?_⟩;have g:=gtg g g55;replace B1:=B1.grow (g55);replace B2:=B2.grow (g55);replace B3:=B3.grow (g55);replace B4:=B4.grow (g55);replace B8:=B8.grow (g55);have hk0:=hk0.grow (g55);have h:=h.grow (g55);have hO:=hO.grow (g55);refine Wp [(1,_,_),(2,_,_),(3,_,_),(4,_,_),(8,_,_)] (Za J (Za J (Za J (Za J (Za J (Zo _)))))) ?_;refine Ze (hK16 _ _ _ ?_);refine Wv fun K17 hK17=>?_;refine Wv fun K18 hK18=>?_;refine Wn [3,0,3,3,3,3,0,3,3,3] ?_;refine Zs J (fun _=>Zg Zea (Zc J)) ?_;refine Ut J (Zw Ux (Zc J) (fun _=>B8.at_ J)) ?_;refine Waa Wt J ?_;refine Zs J (fun _=>Woc (Zc J) Xh) ?_;refine Zs J (fun _=>Zm (Zc J)) ?_;refine Zv J J J (fun _=>Zg Zfa (Zc J)) ?_;refine Xz J J J (Zq Zl (Zz J id) J (fun _=>B8.row.part 2 2)) ?_;refine Zv J J J (fun _=>Uh [_,_] Xd J Vd (Va) J) ?_;refine Zv J J J (fun _=>Qwb Wf (Zz J id) (Zz J id) J) ?_;refine Zs J (fun _=>Wb (Zc J) (Zz J id)) ?_
 refine Wp [(1,_,_),(2,_,_),(3,_,_),(4,_,_),(65,_,_)] (Za J (Za J (Za J (Za J (Za J (Zo _)))))) ?_;refine Ze (hK18 _ _ _ ?_);refine Whb (Zc J) (fun h3=>?_) (fun h3=>?_)
 ·obtain ⟨hfk,hpv,hfy⟩:=hfb hq55
  rw [hfk] at hpv;have hfm:=Yse hP.T hq55 hpv;replace h3:(decide (0<((parT (findD F 4 [109,97,105,110]).1).length:Int)) || !tyEqB (resT (findD F 4 [109,97,105,110]).1) ty0)=true:=by rw [← eqT0,← hfy,← hfm];exact h3
  refine Wv fun K19 hK19=>?_;refine Wn [3,0,3,3] ?_;refine Zs J (fun _=>Zg Zf (Zc J)) ?_;refine Ut J (Zw Zi (Zc J) (fun _=>B1.at_ J)) ?_;refine Waa Zd J ?_;refine Zs J (fun _=>Zm Xh) ?_;refine Wp [(2,_,_),(3,_,_),(4,_,_),(67,_,_),(68,_,_),(69,_,_)] (Za J (Za J (Za J (Za J (Za J (Za J (Zo _))))))) ?_;refine Ze (hK19 _ _ _ ?_);refine Vmb ?_;refine Jpc (fun (i:Nat) u2=>(i≤F.kids.length∧∀ j,j<i→¬ ((Zb F j).kind=4∧(Zb F j).text=[109,97,105,110]))∧GT (mutC (b3::TB)) n0 w u2) _ [(2,True,_),(3,True,_),(4,True,_),(67,True,_),(68,True,_)] (fun (i:Nat)=>[(69,True,.int .i64 i)]) (fun (i:Nat)=>F.kids.length-i) (0) ⟨⟨Aia _,fun j hj=>absurd hj O⟩,g⟩ (Ya (blkE B1) (Ya (blkE B2) (Ya (blkE B3) (Ya (blkE B4) (Ya (blkE B8) (Xg _)))))) (Za J (Za J (Za J (Za J (Za J (Za J (Zo _))))))) ?_;clear B1 B2 B3 B4 B8;rintro i u2 ⟨hI2,gl2⟩ ⟨B1,B2,B3,B4,B8,_⟩;replace B1:Blk _ _ _ _:=B1;replace B2:Blk _ _ _ _:=B2;replace B3:Blk _ _ _ _:=B3;replace B4:Blk _ _ _ _:=B4;replace B8:Blk _ _ _ _:=B8;have g:=gl2;obtain ⟨hi,hno⟩:=hI2;have hk0:=hkw.gt gl2 (fun k h=>h);refine Wv fun K20 hK20=>?_;refine Wn [3] ?_;refine Zs J (fun _=>Uib (Zc J) (Zc J)) ?_;refine Ze (hK20 _ _ _ ?_);refine Qra [(2,_,_),(3,_,_),(4,_,_),(67,_,_),(68,_,_),(69,_,_),(70,_,_)] (Za J (Za J (Za J (Za J (Za J (Za J (Za J (Zo _)))))))) ?_;refine Wv fun K21 hK21=>?_;refine Whb (Zc J) (fun h4=>?_) (fun h4=>?_)
  ·replace h4:i<F.kids.length:=by simp only [Wkg] at h4;omega
   obtain ⟨e0,p1,c1,hcell,hkid⟩:=Yy hk0 (i:=i) h4;refine Jrb (hK21 _ _ _ ?_);refine Qra [(2,_,_),(3,_,_),(4,_,_),(67,_,_),(68,_,_),(69,_,_)] (Za J (Za J (Za J (Za J (Za J (Za J (Zo _))))))) ?_;refine Wv fun K22 hK22=>?_;refine Vmb ?_;refine Wv fun K23 hK23=>?_;refine Wn [3,0,1,2] ?_;refine Xsa Zd J J O e0 ?_;refine Ut J (Zq Zj (Zc J) J (fun _=>hcell)) ?_;refine Xi J Zp J ?_;intro b11 w11 N11;have x11_1:=N11.ne B1;have x11_2:=N11.ne B2;have x11_3:=N11.ne B3;have x11_4:=N11.ne B4;have x11_8:=N11.ne B8;have l11:=Wq N11 g.size;have g:=gtg g N11.g;replace B1:=B1.grow (N11.g);replace B2:=B2.grow (N11.g);replace B3:=B3.grow (N11.g);replace B4:=B4.grow (N11.g);replace B8:=B8.grow (N11.g);have B11:=N11.blk;refine Xn J Xa (Zc J) (Zc J) J J B11 J J ?_;intro wS9 hgS9 hzS9;clear B11;intro B11;replace B1:=B1.keep hgS9 (by intro h;injection h with h;first|exact x11_1 h.symm|exact x1_11 h|omega);replace B2:=B2.keep hgS9 (by intro h;injection h with h;first|exact x11_2 h.symm|exact x2_11 h|omega);replace B3:=B3.keep hgS9 (by intro h;injection h with h;first|exact x11_3 h.symm|exact x3_11 h|omega);replace B4:=B4.keep hgS9 (by intro h;injection h with h;first|exact x11_4 h.symm|exact x4_11 h|omega);replace B8:=B8.keep hgS9 (by intro h;injection h with h;first|exact x11_8 h.symm|exact x8_11 h|omega);have g:=Yg g hgS9 O;refine Wp [(2,_,_),(3,_,_),(4,_,_),(11,_,_),(67,_,_),(68,_,_),(69,_,_)] (Za J (Za J (Za J (Za J (Za J (Za J (Za J (Zo _)))))))) ?_;refine Ze (hK23 _ _ _ ?_);refine Wn [3,0,3,3,3,0,3,3,3,0,1] ?_;refine Zs J (fun _=>Zg Wh (Zc J)) ?_;refine Ut J (Zw Yk (Zc J) (fun _=>B11.at_ J)) ?_
   refine Zs J (fun _=>Vsa (Zc J) Xh) ?_;refine Zs J (fun _=>Zm (Zc J)) ?_;refine Zv J J J (fun _=>Zg Wx (Zc J)) ?_;refine Xz J J J (Zw Xb (Zz J id) (fun _=>B11.at_ J)) ?_;refine Zv J J J (fun _=>Uae (Zz J id) Xh) ?_;refine Zs J (fun _=>Wb (Zc J) (Zz J id)) ?_;refine Zs J (fun _=>Zg We (Zc J)) ?_;refine Ut J (Zw Yk (Zc J) (fun _=>B11.at_ J)) ?_;refine Yra J (Yd Yj Ve (Yi (Zc J) (Yi (Zc J) (Yi Xh (Xj)))) J) (Vw _ _ _ _) ((fun ch w' hz=>Xgd J hv J J J (B2.grow hz.2.2) (B3.grow hz.2.2) (B4.grow hz.2.2) ⟨O,O,O⟩ (Vrd (g.trans (GT.of_g hz.2.2)) hn0) (T:={ (dclA F rs0 F.kids.length).2 with ea:=(Zb F i).pos,ee:=7 }) ⟨hz.2.1,by show ¬ (7:Int)=0;decide⟩ (er_r7 hdu hei HF.res hq55 h3 h4 (Ywg hz.1)))) ?_;rintro v83 w83 ⟨rfl,hq83,g83⟩;refine ⟨fun _=>g83,?_⟩;have g:=gtg g g83;replace B1:=B1.grow (g83);replace B2:=B2.grow (g83);replace B3:=B3.grow (g83);replace B4:=B4.grow (g83);replace B8:=B8.grow (g83);refine Wp [(2,_,_),(3,_,_),(4,_,_),(67,_,_),(68,_,_),(69,_,_)] (Za J (Za J (Za J (Za J (Za J (Za J (Zo _))))))) ?_;refine Ze (hK22 _ _ _ ?_);refine Wn [3,3] ?_;refine Vta J J O ?_;refine Zs J (fun _=>Zm (Zc J)) ?_;refine Wp [(69,_,_),(2,_,_),(3,_,_),(4,_,_),(67,_,_),(68,_,_)] (Za J (Za J (Za J (Za J (Za J (Za J (Zo _))))))) ?_;refine Ze (fun a ha=>?_);refine ⟨rfl,?_⟩;exact ⟨i+1,ha,⟨⟨h4,Yxg hno hq83⟩,g⟩,(Ya (blkE B1) (Ya (blkE B2) (Ya (blkE B3) (Ya (blkE B4) (Ya (blkE B8) (Xg _)))))),O⟩
  exfalso;replace h4:i=F.kids.length:=by simp only [Wlg] at h4;omega
  obtain ⟨j,hj,k4,e4,_⟩:=Qza (show 0≤(findD F 4 [109,97,105,110]).2 from Wmg hq55);exact hno j O ⟨k4,e4⟩;done
 obtain ⟨hfk,hpv,hfy⟩:=hfb hq55;rw [hfk] at hpv;have hfm:=Yse hP.T hq55 hpv;replace h3:(decide (0<((parT (findD F 4 [109,97,105,110]).1).length:Int)) || !tyEqB (resT (findD F 4 [109,97,105,110]).1) ty0)=false:=by rw [← eqT0,← hfy,← hfm];exact h3
 refine Jrb (hK17 _ _ _ ?_);refine Qra [(2,_,_),(3,_,_),(4,_,_)] (Za J (Za J (Za J (Zo _)))) ?_;refine Wv fun K24 hK24=>?_;refine Wn [0,2,2,2] ?_;refine Ut J (Zq Zj (Zc J) J (fun _=>B2.row)) ?_;refine Xn J Xa (Zc J) (Zc J) J J B2 J J ?_;intro wS10 hgS10 hzS10;have C2:=B2;clear B2;intro B2;replace B1:=B1.keep hgS10 (by intro h;injection h with h;first|exact x2_1 h.symm|exact x1_2 h|omega);replace B3:=B3.keep hgS10 (by intro h;injection h with h;first|exact x2_3 h.symm|exact x3_2 h|omega);replace B4:=B4.keep hgS10 (by intro h;injection h with h;first|exact x2_4 h.symm|exact x4_2 h|omega);replace B8:=B8.keep hgS10 (by intro h;injection h with h;first|exact x2_8 h.symm|exact x8_2 h|omega);have g:=Yg g hgS10 O;have h:=h.keep hgS10 C2 O (by first|exact .inl rfl|exact .inr ⟨by simp,fun hm=>by have:=hTB _ hm;omega⟩);have hO:=hO.keep hgS10 Os;refine Xn J Wz (Zc J) Xh J J B3 J J ?_;intro wS11 hgS11 hzS11;clear B3;intro B3;replace B1:=B1.keep hgS11 (by intro h;injection h with h;first|exact x3_1 h.symm|exact x1_3 h|omega);replace B2:=B2.keep hgS11 (by intro h;injection h with h;first|exact x3_2 h.symm|exact x2_3 h|omega);replace B4:=B4.keep hgS11 (by intro h;injection h with h;first|exact x3_4 h.symm|exact x4_3 h|omega);replace B8:=B8.keep hgS11 (by intro h;injection h with h;first|exact x3_8 h.symm|exact x8_3 h|omega);have g:=Yg g hgS11 O;have hO:=hO.keep hgS11 Os;refine Xn J Qia (Zc J) Xh J J B4 J J ?_;intro wS12 hgS12 hzS12;clear B4;intro B4;replace B1:=B1.keep hgS12 (by intro h;injection h with h;first|exact x4_1 h.symm|exact x1_4 h|omega)
 replace B2:=B2.keep hgS12 (by intro h;injection h with h;first|exact x4_2 h.symm|exact x2_4 h|omega);replace B3:=B3.keep hgS12 (by intro h;injection h with h;first|exact x4_3 h.symm|exact x3_4 h|omega);replace B8:=B8.keep hgS12 (by intro h;injection h with h;first|exact x4_8 h.symm|exact x8_4 h|omega);have g:=Yg g hgS12 O;have hO:=hO.keep hgS12 Os;refine Wp [(2,_,_),(3,_,_),(4,_,_)] (Za J (Za J (Za J (Zo _)))) ?_;refine Ze (hK24 _ _ _ ?_);refine Jsb (?_);refine Yug Zob Vhe ?_;rintro v90 w90 ⟨_,g90⟩;have B2:=B2.grow g90;have B3:=B3.grow g90;have B4:=B4.grow g90;have hO:=hO.grow g90;have g:=g.trans (GT.of_g g90);refine Ydc (Zka (rs:=[.cell 2 26,.cell 3 3,.cell 4 30]) (vs:=[_,_,_]) J J (Zba J Zj J (by first|exact B1.row|exact B2.row|exact B3.row|exact B4.row|exact B8.row) (Uyb J Yk (by first|exact B1.at_ J|exact B2.at_ J|exact B3.at_ J|exact B4.at_ J|exact B8.at_ J) (Uyb J Xqa (by first|exact B1.at_ J|exact B2.at_ J|exact B3.at_ J|exact B4.at_ J|exact B8.at_ J) (Ug)))) J ?_);have er:refCheck F=(refA F,0,0):=Vqd hv (by rw [(Zlc hdu).1,Xaf HF.res hq55,h3];exact hei);exact ⟨⟨_,by rw [er],by rw [er,(Zlc hdu).2];exact Zy (t:=annT F _ ty0) rfl hO.kd⟩,Vrd g hn0⟩
theorem Vje(F:Nd)(v:Fa)(D:Nat→Prop)(w:Aa)(hkD:Kd w D F.kids v)(hcn:count F≤1000000)(hL0:LaidW w.heap.size w):Ret PP 13 #[ndV F v] w (RChk F w) :=
 (Jpd F v D w hkD hcn hL0).ret fun _ _ h=>h
theorem Jsc(F:Nd)(v:Fa)(D:Nat→Prop)(w:Aa){m0:Nat}(Z:List Nat)(hkD:Kd w D F.kids v)(hcn:count F≤1000000)(hL0:LaidW w.heap.size w)(hZ:∀ j∈Z,j<w.heap.size)(hm:m0≤w.heap.size) :
 Ret PP 13 #[ndV F v] w fun r w'=>(∃ p c,r = .tuple #[ndV (refCheck F).1 (.slice p (refCheck F).1.kids.length c),.int .i64 (refCheck F).2.1,.int .i64 (refCheck F).2.2]∧m0≤w.heap.size∧KdX w.heap.size Z w' (refCheck F).1.kids (.slice p (refCheck F).1.kids.length c))∧G w w' :=
 (Vje F v D w hkD hcn hL0).mono fun r w' hr=>by
 obtain ⟨⟨u,rfl,p,c,e,k⟩,g⟩:=hr;exact ⟨⟨p,c,by rw [e],hm,KdN.x k hZ⟩,g⟩
theorem LaidW.top{n0:Nat}{w:Aa}(h:LaidW n0 w):LaidW w.heap.size w:=⟨h.hL,h.hT,h.hC,Aga h.hG h.hn,Aba _⟩
theorem LaidW.mk'{w:Aa}(h:Laid w)(hT:LaidT w)(hC:Jye w)(hb:10≤w.heap.size):LaidW w.heap.size w:=⟨h,hT,hC,hb,Aba _⟩
theorem Qrb(c:Int)(w:Aa):Ret PP 94 #[.int .u8 c] w fun v w'=>v = .bool (letterB c)∧G w w':=by
 have g:=G.refl w;refine WK 21 [0] Tryz.func94 ?_;refine RTN ?_;exact ⟨rfl,g⟩
theorem Ynb(c:Int)(w:Aa):Ret PP 96 #[.int .u8 c] w fun v w'=>v = .bool (digitB c)∧G w w':=by
 have g:=G.refl w;refine WK 9 [0] Tryz.func96 ?_;refine RTN ?_;exact ⟨rfl,g⟩
def intOk(l:List UInt8):Bool:=(decide (l.length≤19) && !(decide ((1:Int)<l.length)&&decide (cAt l 0=48)))&&decide ((valN 0 l:Int)<9223372036854775808)
theorem Vke(a:Nat)(l:List UInt8)(c:UInt8):valN a (l++[c])=valN a l*10+(c.toNat-48):=by simp [valN]
theorem Jqd(l:List UInt8)(h:allD l):valN 0 l<10 ^ l.length:=by
 have key:∀ (l:List UInt8),allD l→∀ a,valN a l<(a+1)*10 ^ l.length:=by
  intro l
  induction l with
  | nil=>intro _ a;show a<(a+1)*1;omega
  | cons c l ih =>
   intro h a;have hc:=h c (Bea ..);have:=ih (fun x hx=>h x (Aha _ hx)) (a*10+(c.toNat-48));rw [Ycb,Aya,Nat.pow_succ];refine Aaa this ?_;rw [show (a+1)*(10 ^ l.length*10)=((a+1)*10)*10 ^ l.length by rw [Nat.mul_assoc,Nat.mul_comm 10]];exact Bda _ O
 simpa using key l h 0
theorem Jtc{l:List UInt8}{i:Nat}(h:i<l.length)(hd:allD l):(valN 0 (l.take (i+1)):Int)=10*(valN 0 (l.take i):Int)+(cAt l i-48)∧valN 0 (l.take i)<10 ^ i∧48≤cAt l i∧cAt l i≤57:=by
 have hm:l[i]∈l:=List.getElem_mem h;have hc:=hd _ hm;have ec:cAt l i=(l[i].toNat:Int):=by simp [cAt,Bga,Apa h]
 have hb:=Jqd (l.take i) (fun c hc=>hd c (List.mem_of_mem_take hc));rw [Ara,Nat.min_eq_left O] at hb;refine ⟨?_,hb,O,O⟩;rw [Ava h,Vke,ec];omega
theorem Jrd(l:List UInt8)(hd:allD l)(hne:l≠[])(hl:l.length≤20000)(w:Aa):Ret PP 124 #[Str l] w fun v w'=>(∃ x,v = .tuple #[.int .i64 x,.bool (intOk l)])∧G w w':=by
 have g:=G.refl w;refine WK 46 [0] Tryz.func124 ?_;refine AU ?_;refine Zv J J J (fun _=>Qp Yq (Zz J id) Xh (fun hc=>by have:=Wmg hc.2;omega)) ?_;refine IF (fun h1=>?_) fun h1=>?_
 ·have hN:intOk l=false:=by
   rw [intOk];rw [Whg hne,Ana] at h1;by_cases h19:l.length≤19
   ·rw [Whg (by omega:¬ (19:Int)<l.length),Ana] at h1
    replace h1:(decide ((1:Int)<l.length)&&decide (cAt l 0=48))=true:=h1;rw [h1];simp
   · rw [Whg h19];rfl
  refine RTN ?_;exact ⟨⟨0,by rw [hN]⟩,g⟩
 have h19:l.length≤19:=by
  cases h0:decide ((19:Int)<l.length)
  · have:=Wng h0;omega
  · rw [h0] at h1;simp at h1
 have hN:intOk l=decide ((valN 0 l:Int)<9223372036854775808):=by
  rw [intOk];rw [Whg hne,Whg (by omega:¬ (19:Int)<l.length),Ana,Ana] at h1;replace h1:(decide ((1:Int)<l.length)&&decide (cAt l 0=48))=false:=h1;rw [h1,Wig h19,Bool.not_false,Bool.and_true,Bool.true_and]
 have h10:(10:Nat) ^ 19=10000000000000000000:=by decide
 refine AU ?_;refine Xva (fun (i:Nat) u=>i≤l.length∧G w u) (fun i=>[(0,True,Str l),(4,True,.int .u64 (valN 0 (l.take i):Nat)),(5,True,.int .i64 i)]) (fun i=>l.length-i) 0 ⟨O,g⟩ (Za J (Za J (Za J (Zo _)))) ?_;rintro i u ⟨hi,g⟩;refine IF (fun h2=>?_) fun h2=>?_
 ·replace h2:i<l.length:=by simp only [Wkg] at h2;omega
  obtain ⟨e,hb,hc1,hc2⟩:=Jtc h2 hd;have hb2:valN 0 (l.take i)<10 ^ 18:=Aaa hb (Nat.pow_le_pow_right Od O);have h18:(10:Nat) ^ 18=1000000000000000000:=by decide
  rw [h18] at hb2;refine AU ?_;refine CP (Ynb _ _) (fun w32 g32=>?_);have g:=g.trans g32;refine IF (fun h3=>?_) fun h3=>?_
  ·exfalso
   replace h3:(!digitB (cAt l i))=true:=h3;rw [digitB,Wig hc1,Wig hc2] at h3;cases h3;done
  skip;refine Yp (kq (Ws [3,3,3,3,3,3,3,3,3] (Zx J (Zs J (fun _=>Zee (r:=10*((valN 0 (l.take i):Nat):Int)) Xh (Zc J) (fun hc=>Zuc ⟨O,O⟩)) (Zx J (Zx J (Zs J (fun _=>Qp Yq (Zc J) (Zc J) (fun _=>O)) (Zs J (fun _=>Jab (r:=cAt l i-48) (Zc J) Xh (fun hc=>Jjf ⟨by show 0≤cAt l i-48;omega,by show cAt l i-48≤255;omega⟩)) (Zs J (fun _=>Xtd (r:=cAt l i-48) Xxd Vlb (Zc J) (fun hc=>Zuc ⟨O,O⟩)) (Zs J (fun _=>Zde (r:=((valN 0 (l.take (i+1)):Nat):Int)) (Zc J) (Zc J) (fun hc=>(by rw [e];exact Zuc ⟨O,O⟩))) (Xc J (Ze (kq (Zu (Zx J (Vta J J O (Xc J (?_))))))))))))))))));refine Wp [(0,_,_),(4,_,_),(5,_,_)] (Za J (Za J (Za J (Zo _)))) (Ze (fun a ha=>?_));exact ⟨i+1,ha,⟨h2,g⟩,O⟩
 have hi:i=l.length:=by simp only [Wlg] at h2;omega
 subst hi;refine Jp J (kq (Zn (Ws [3,3,3,3,3,3] (Zx J (Zs J (fun _=>Zdd Vlb Uoe (Zc J)) (Zx J (Znb J J (Xc J (Xc J (Ze (kq (Xw (Yqb (ts:=[2,3]) (vs:=[_,_]) J J J ?_)))))))))))));refine ⟨⟨IntKind.i64.wrap ((valN 0 (l.take l.length):Nat):Int),?_⟩,g⟩;rw [hN];have e:l.take l.length=l:=List.take_length;rw [e]
structure PSt where
  ix:Nat
  bad:Bool
def tkn(l:List Tok)(i:Nat):Tok:=l.getD i ⟨0,[],0⟩
def mkN(k:Int)(x:List UInt8)(n a:Int)(ks:List Nd):Nd:=.mk k x n a ks ty0 0 0
def nonN:Nd:=mkN 9 [] 0 0 []
def failQ(S:PSt):PSt:=⟨S.ix,true⟩
def adv(S:PSt):PSt:=⟨S.ix+1,S.bad⟩
def levelQ(s:List UInt8):Nat :=
 bif decide (s=[124,124]) then 1
 else bif decide (s=[38,38]) then 2
 else bif inB [[61,61],[33,61],[60],[60,61],[62],[62,61]] s then 3
 else bif inB [[43],[45]] s then 4
 else bif inB [[42],[47],[37]] s then 5
 else 0
def intQ(s:List UInt8):Int:=bif decide (s.length≤19) && !(decide ((1:Int)<s.length)&&decide (cAt s 0=48)) then IntKind.i64.wrap (valN 0 s:Nat) else 0
section
variable (l:List Tok) (sz:Int)
def peekQ(S:PSt)(k:Nat):List UInt8 :=
 bif (S.bad || decide ((l.length:Int)≤(S.ix:Int)+(k:Int))) || (!decide ((tkn l (S.ix+k)).kind=3) && !decide ((tkn l (S.ix+k)).kind=4)) then [] else (tkn l (S.ix+k)).text
def isQ(S:PSt)(s:List UInt8):Bool:=decide (peekQ l S 0=s)
def offQ(S:PSt):Int:=bif decide ((S.ix:Int)<l.length) then (tkn l S.ix).pos else sz
def isK(S:PSt)(kd:Int)(k:Nat):Bool:=(!S.bad&&decide ((S.ix:Int)+(k:Int)<l.length))&&decide ((tkn l (S.ix+k)).kind=kd)
def takeQ(s:List UInt8)(S:PSt):PSt:=bif isQ l S s then adv S else failQ S
def nameQ(S:PSt):List UInt8×PSt:=bif isK l S 1 0 then ((tkn l S.ix).text,adv S) else ([],failQ S)
def semiQ(S:PSt):PSt:=bif isQ l S [125] || decide ((l.length:Int)≤S.ix) then S else takeQ l [59] S
def endQ(S:PSt):PSt:=bif decide ((l.length:Int)≤(semiQ l S).ix) then failQ (semiQ l S) else semiQ l S
def typQ(S:PSt):Nd×PSt :=
 bif inB [[105,110,116],[98,111,111,108],[109,117,116,101,120],[114,119,109,117,116,101,120],[103,114,111,117,112],[111,110,99,101],[97,116,111,109,105,99]] (peekQ l S 0) then (mkN 7 (peekQ l S 0) 0 (offQ l sz S) [],adv S)
 else bif isQ l S [42] then (mkN 8 (nameQ l (adv S)).1 0 (offQ l sz S) [],(nameQ l (adv S)).2)
 else bif isQ l S [91] then (mkN 7 [91,93,105,110,116] 0 (offQ l sz S) [],takeQ l [105,110,116] (takeQ l [93] (adv S)))
 else bif isQ l S [99,104,97,110] then (mkN 7 [99,104,97,110] 0 (offQ l sz S) [],takeQ l [105,110,116] (adv S))
 else bif isQ l S [102,117,110,99] then (mkN 7 [102,117,110,99] 0 (offQ l sz S) [],takeQ l [41] (takeQ l [40] (adv S)))
 else (mkN 7 [] 0 (offQ l sz S) [],failQ S)
def fieldQ(S:PSt):Nd×PSt :=
 let a:=nameQ l S
 let t:=typQ l sz a.2
 (mkN 3 a.1 0 (offQ l sz S) [t.1],t.2)
def fldL:Nat→List Nd→PSt→List Nd×PSt
 | 0,acc,S=>(acc,S)
 | f+1,acc,S=>bif isQ l S [44] then fldL f (acc++[(fieldQ l sz (adv S)).1]) (fieldQ l sz (adv S)).2 else (acc,S)
def paramsQ(S:PSt):Nd×PSt :=
 let S1:=takeQ l [40] S
 bif isQ l S1 [41] then (mkN 5 [] 0 (offQ l sz S) [],adv S1)
 else
  let a:=fieldQ l sz S1
  let r:=fldL l sz (l.length+1) [a.1] a.2
  (mkN 5 [] 0 (offQ l sz S) r.1,takeQ l [41] r.2)
def strL:Nat→List Nd→PSt→List Nd×PSt
 | 0,acc,S=>(acc,S)
 | f+1,acc,S=>bif !S.bad && !isQ l S [125] then strL f (acc++[(fieldQ l sz S).1]) (endQ l (fieldQ l sz S).2) else (acc,S)
structure Pz where
  sts:Bool→PSt→List Nd×PSt
  blk:PSt→Nd×PSt
  ifs:PSt→Nd×PSt
  rcv:PSt→Nd×PSt
  sim:Bool→PSt→Nd×PSt
  sel:PSt→Nd×PSt
  st:PSt→Nd×PSt
  ex:Nat→PSt→Nd×PSt
  un:PSt→Nd×PSt
  pri:PSt→Nd×PSt
  opd:PSt→Nd×PSt
def pz0:Pz:=⟨fun _ S=>([],S),fun S=>(nd0,failQ S),fun S=>(nd0,failQ S),fun S=>(nd0,failQ S),fun _ S=>(nd0,failQ S),fun S=>(nd0,failQ S),fun S=>(nd0,failQ S),fun _ S=>(nd0,failQ S),fun S=>(nd0,failQ S),fun S=>(nd0,failQ S),fun S=>(nd0,failQ S)⟩
variable (x:Pz)
def stsC(c:Bool)(S:PSt):Bool:=(!S.bad && !isQ l S [125]) && !(c&&(isQ l S [99,97,115,101] || isQ l S [100,101,102,97,117,108,116]))
def stsL(c:Bool):Nat→List Nd→PSt→List Nd×PSt
 | 0,acc,S=>(acc,S)
 | f+1,acc,S=>bif stsC l c S then stsL c f (acc++[(x.st S).1]) (endQ l (x.st S).2) else (acc,S)
def stsQ(c:Bool)(S:PSt):List Nd×PSt:=stsL l x c (l.length+2) [] S
def blkQ(S:PSt):Nd×PSt :=
 let a:=x.sts false (takeQ l [123] S)
 (mkN 10 [] 0 (offQ l sz S) a.1,takeQ l [125] a.2)
def ifsQ(S:PSt):Nd×PSt :=
 let c:=x.ex 1 (takeQ l [105,102] S)
 let b:=x.blk c.2
 let e:=bif isQ l b.2 [101,108,115,101] then (bif isQ l (adv b.2) [105,102] then x.ifs (adv b.2) else x.blk (adv b.2)) else (nonN,b.2)
 (mkN 18 [] 0 (offQ l sz S) [c.1,b.1,e.1],e.2)
def rcvQ(S:PSt):Nd×PSt:=bif isQ l S [60,45] then x.un S else (nd0,failQ S)
def simQ(comm:Bool)(S:PSt):Nd×PSt :=
 bif isK l S 1 0&&decide (peekQ l S 1=[58,61]) then
  let v:=bif comm then x.rcv (adv (nameQ l S).2) else x.ex 1 (adv (nameQ l S).2)
  (mkN 11 (nameQ l S).1 0 (offQ l sz S) [v.1],v.2)
 else
  let a:=x.ex 1 S
  bif isQ l a.2 [61] then
   let b:=bif comm then x.rcv (adv a.2) else x.ex 1 (adv a.2)
   (mkN 12 [] 0 (offQ l sz a.2) [a.1,b.1],b.2)
  else bif isQ l a.2 [60,45] then
   let b:=x.ex 1 (adv a.2)
   (mkN 16 [] 0 (offQ l sz a.2) [a.1,b.1],b.2)
  else (mkN 13 [] 0 (offQ l sz S) [a.1],bif !decide (a.1.kind=33)&&(comm || !decide (a.1.kind=30)) then failQ a.2 else a.2)
def casQ(S:PSt):Nd×PSt:=bif isQ l S [100,101,102,97,117,108,116] then (nonN,adv S) else x.sim true (takeQ l [99,97,115,101] S)
def selL:Nat→List Nd→PSt→List Nd×PSt
 | 0,acc,S=>(acc,S)
 | f+1,acc,S =>
  bif !S.bad && !isQ l S [125] then
   let a:=casQ l x S
   let b:=x.sts true (takeQ l [58] a.2)
   selL f (acc++[mkN 23 [] 0 (offQ l sz S) [a.1,mkN 10 [] 0 (offQ l sz a.2) b.1]]) b.2
  else (acc,S)
def selQ(S:PSt):Nd×PSt :=
 let r:=selL l sz x (l.length+1) [] (takeQ l [123] (takeQ l [115,101,108,101,99,116] S))
 (mkN 22 [] 0 (offQ l sz S) r.1,takeQ l [125] r.2)
def varQ(S:PSt):Nd×PSt :=
 let a:=nameQ l (adv S)
 let t:=typQ l sz a.2
 let e:=bif isQ l t.2 [61] then x.ex 1 (adv t.2) else (nonN,t.2)
 (mkN 6 a.1 0 (offQ l sz S) [t.1,e.1],e.2)
def stQ(S:PSt):Nd×PSt :=
 bif isQ l S [118,97,114] then varQ l sz x S
 else bif isQ l S [103,111] || isQ l S [100,101,102,101,114] then
  let c:=x.pri (adv S)
  (mkN (bif isQ l S [100,101,102,101,114] then 15 else 14) [] 0 (offQ l sz S) [c.1],bif !decide (c.1.kind=30) then failQ c.2 else c.2)
 else bif isQ l S [99,108,111,115,101] || isQ l S [112,114,105,110,116] then
  let c:=x.ex 1 (takeQ l [40] (adv S))
  (mkN (bif isQ l S [112,114,105,110,116] then 21 else 17) [] 0 (offQ l sz S) [c.1],takeQ l [41] c.2)
 else bif isQ l S [105,102] then x.ifs S
 else bif isQ l S [102,111,114] then
  let c:=bif isQ l (adv S) [123] then (nonN,adv S) else x.ex 1 (adv S)
  let b:=x.blk c.2
  (mkN 19 [] 0 (offQ l sz S) [c.1,b.1],b.2)
 else bif isQ l S [114,101,116,117,114,110] then
  bif (!isQ l (adv S) [59] && !isQ l (adv S) [125])&&decide (((adv S).ix:Int)<l.length) then (mkN 20 [] 0 (offQ l sz S) [(x.ex 1 (adv S)).1],(x.ex 1 (adv S)).2)
  else (mkN 20 [] 0 (offQ l sz S) [],adv S)
 else bif isQ l S [115,101,108,101,99,116] then x.sel S
 else bif isQ l S [123] then x.blk S
 else x.sim false S
def exE(least:Nat)(S:PSt):Bool:=decide ((levelQ (peekQ l S 0):Int)=0) || decide ((levelQ (peekQ l S 0):Int)<least)
def exL(least:Nat):Nat→Nd→PSt→Nd×PSt
 | 0,a,S=>(a,S)
 | f+1,a,S =>
  bif !S.bad then
   bif exE l least S then (a,S)
   else
    let b:=x.ex (levelQ (peekQ l S 0)+1) (adv S)
    exL least f (mkN 32 (peekQ l S 0) 0 (offQ l sz S) [a,b.1]) b.2
  else (a,S)
def exQ(least:Nat)(S:PSt):Nd×PSt:=exL l sz x least (l.length+2) (x.un S).1 (x.un S).2
def unQ(S:PSt):Nd×PSt :=
 bif isQ l S [45] || isQ l S [33] then (mkN 31 (peekQ l S 0) 0 (offQ l sz S) [(x.un (adv S)).1],(x.un (adv S)).2)
 else bif isQ l S [60,45] then (mkN 33 [] 0 (offQ l sz S) [(x.un (adv S)).1],(x.un (adv S)).2)
 else x.pri S
def argL:Nat→List Nd→PSt→List Nd×PSt
 | 0,acc,S=>(acc,S)
 | f+1,acc,S=>bif isQ l S [44] then argL f (acc++[(x.ex 1 (adv S)).1]) (x.ex 1 (adv S)).2 else (acc,S)
def argQ(a:Nd)(S:PSt):List Nd×PSt :=
 bif isQ l S [41] then ([a],S)
 else argL l x (l.length+1) [a,(x.ex 1 S).1] (x.ex 1 S).2
def priL:Nat→Nd→PSt→Nd×PSt
 | 0,a,S=>(a,S)
 | f+1,a,S =>
  bif !S.bad then
   bif isQ l S [46] then priL f (mkN 28 (nameQ l (adv S)).1 0 (offQ l sz S) [a]) (nameQ l (adv S)).2
   else bif isQ l S [91] then priL f (mkN 29 [] 0 (offQ l sz S) [a,(x.ex 1 (adv S)).1]) (takeQ l [93] (x.ex 1 (adv S)).2)
   else bif isQ l S [40] then priL f (mkN 30 [] 0 (offQ l sz S) (argQ l x a (adv S)).1) (takeQ l [41] (argQ l x a (adv S)).2)
   else (a,S)
  else (a,S)
def priQ(S:PSt):Nd×PSt:=priL l sz x (l.length+2) (x.opd S).1 (x.opd S).2
def mkeQ(S:PSt):PSt:=takeQ l [44] (takeQ l [105,110,116] (bif isQ l S [99,104,97,110] then adv S else takeQ l [93] (takeQ l [91] S)))
def opdQ(S:PSt):Nd×PSt :=
 bif isK l S 1 0 then (mkN 27 (nameQ l S).1 0 (offQ l sz S) [],(nameQ l S).2)
 else bif isK l S 2 0 then (mkN 24 [] (intQ (tkn l S.ix).text) (offQ l sz S) [],adv S)
 else bif isQ l S [116,114,117,101] || isQ l S [102,97,108,115,101] then (mkN 25 [] (bif isQ l S [116,114,117,101] then 1 else 0) (offQ l sz S) [],adv S)
 else bif isQ l S [110,105,108] then (mkN 26 [] 0 (offQ l sz S) [],adv S)
 else bif isQ l S [40] then ((x.ex 1 (adv S)).1,takeQ l [41] (x.ex 1 (adv S)).2)
 else bif isQ l S [110,101,119] then (mkN 34 (nameQ l (takeQ l [40] (adv S))).1 0 (offQ l sz S) [],takeQ l [41] (nameQ l (takeQ l [40] (adv S))).2)
 else bif isQ l S [108,101,110] then (mkN 37 [] 0 (offQ l sz S) [(x.ex 1 (takeQ l [40] (adv S))).1],takeQ l [41] (x.ex 1 (takeQ l [40] (adv S))).2)
 else bif isQ l S [109,97,107,101] then
  let e:=x.ex 1 (mkeQ l (takeQ l [40] (adv S)))
  (mkN (bif isQ l (takeQ l [40] (adv S)) [99,104,97,110] then 36 else 35) [] 0 (offQ l sz S) [e.1],takeQ l [41] e.2)
 else bif isQ l S [102,117,110,99] then
  let b:=x.blk (takeQ l [41] (takeQ l [40] (adv S)))
  (mkN 38 [] 0 (offQ l sz S) [b.1],b.2)
 else (mkN 0 [] 0 (offQ l sz S) [],failQ S)
def pzF:Pz:=⟨stsQ l x,blkQ l sz x,ifsQ l sz x,rcvQ l x,simQ l sz x,selQ l sz x,stQ l sz x,exQ l sz x,unQ l sz x,priQ l sz x,opdQ l sz x⟩
def pzN:Nat→Pz
 | 0=>pz0
 | n+1=>pzF l sz (pzN n)
def funQ(S:PSt):Nd×PSt :=
 let a:=nameQ l (adv S)
 let p:=paramsQ l sz a.2
 let t:=bif isQ l p.2 [123] then (nonN,p.2) else typQ l sz p.2
 let b:=x.blk t.2
 (mkN 4 a.1 0 (offQ l sz S) [p.1,t.1,b.1],b.2)
def strQ(S:PSt):Nd×PSt :=
 let a:=nameQ l (adv S)
 let r:=strL l sz (l.length+2) [] (takeQ l [123] (takeQ l [115,116,114,117,99,116] a.2))
 (mkN 2 a.1 0 (offQ l sz S) r.1,takeQ l [125] r.2)
def declQ(S:PSt):Nd×PSt :=
 bif isQ l S [116,121,112,101] then strQ l sz S
 else bif isQ l S [118,97,114] then
  let a:=nameQ l (adv S)
  let t:=typQ l sz a.2
  (mkN 6 a.1 0 (offQ l sz S) [t.1,nonN],t.2)
 else bif isQ l S [102,117,110,99] then funQ l sz x S
 else (mkN 0 [] 0 (offQ l sz S) [],failQ S)
def prsL:Nat→List Nd→PSt→List Nd×PSt
 | 0,acc,S=>(acc,S)
 | f+1,acc,S =>
  bif !S.bad&&decide ((S.ix:Int)<l.length) then
   let d:=declQ l sz x S
   prsL f (acc++[d.1]) (bif decide ((d.2.ix:Int)<l.length) then takeQ l [59] d.2 else d.2)
  else (acc,S)
def prsT:List Nd×PSt:=prsL l sz (pzN l sz (8*l.length+20)) (l.length+1) [] ⟨0,false⟩
end
def fileN(ks:List Nd):Nd:=mkN 1 [] 0 0 ks
def parseF(s:List UInt8):Nd×Int×Int :=
 bif !decide ((scanF s).2.2=0) then (nd0,(scanF s).2.1,(scanF s).2.2)
 else
  let r:=prsT (scanF s).1 s.length
  bif r.2.bad then (nd0,offQ (scanF s).1 s.length r.2,4)
  else bif decide ((50:Int)<(depthN (fileN r.1):Nat)) then (nd0,0,3)
  else (fileN r.1,0,0)
def remQ(l:List Tok)(S:PSt):Nat:=bif S.bad then 0 else l.length-S.ix+1
def PLe(l:List Tok)(S T:PSt):Prop:=S.ix≤l.length→T.ix≤l.length∧remQ l T≤remQ l S
def PLt(l:List Tok)(S T:PSt):Prop:=S.ix≤l.length→T.ix≤l.length∧remQ l T≤remQ l S∧(S.bad=false→remQ l T<remQ l S)
section
variable {l:List Tok} {sz:Int} {S T U:PSt}
theorem Zmc(h:S.bad=true):remQ l S=0:=by rw [remQ,h];rfl
theorem Xdb(h:S.bad=false):remQ l S=l.length-S.ix+1:=by rw [remQ,h];rfl
theorem PLe.refl(S:PSt):PLe l S S:=fun h=>⟨h,Aba _⟩
theorem PLe.trans(h:PLe l S T)(k:PLe l T U):PLe l S U:=fun hS=>by
 obtain ⟨a,b⟩:=h hS;obtain ⟨c,d⟩:=k a;exact ⟨c,Aga d b⟩
theorem PLt.le(h:PLt l S T):PLe l S T:=fun hS=>⟨(h hS).1,(h hS).2.1⟩
theorem PLt.tle(h:PLt l S T)(k:PLe l T U):PLt l S U:=fun hS=>by
 obtain ⟨a,b,c⟩:=h hS;obtain ⟨d,e⟩:=k a;exact ⟨d,Aga e b,fun hb=>Nat.lt_of_le_of_lt e (c hb)⟩
theorem PLe.tlt(h:PLe l S T)(k:PLt l T U):PLt l S U:=fun hS=>by
 obtain ⟨a,b⟩:=h hS;obtain ⟨c,d,e⟩:=k a;refine ⟨c,Aga d b,fun hb=>?_⟩;cases hT:T.bad;exact Aaa (e hT) b;rw [Zmc hT] at d;rw [Xdb hb];omega
theorem PLt.trans(h:PLt l S T)(k:PLt l T U):PLt l S U:=h.tle k.le
theorem Qv(S:PSt):PLt l S (failQ S):=fun hS=>by
 have e:remQ l (failQ S)=0:=rfl;exact ⟨hS,O,fun hb=>by rw [e,Xdb hb];omega⟩
theorem Uvc(S:PSt):PLe l S (failQ S):=(Qv S).le
theorem Zha(h:S.ix<l.length):PLt l S (adv S):=fun hS=>by
 refine ⟨h,?_,fun hb=>?_⟩;cases hb:S.bad;rw [Xdb hb,Xdb (S:=adv S) hb];show l.length-(S.ix+1)+1≤_;omega;rw [Zmc (S:=adv S) hb];omega;rw [Xdb hb,Xdb (S:=adv S) hb];show l.length-(S.ix+1)+1<_;omega
theorem Veb{k:Nat}(h:peekQ l S k≠[]):S.bad=false∧S.ix+k<l.length:=by
 unfold peekQ at h;cases hb:S.bad;refine ⟨rfl,?_⟩;cases hd:decide ((l.length:Int)≤(S.ix:Int)+(k:Int));have:=Wng hd;omega;rw [hb,hd] at h;exact absurd rfl h;rw [hb] at h;exact absurd rfl h
theorem Vh{s:List UInt8}(h:isQ l S s=true)(hs:s≠[]):S.bad=false∧S.ix<l.length:=by
 have:=Wmg h;exact Veb (k:=0) (by rw [this];exact hs)
theorem Uwc{kd:Int}{k:Nat}(h:isK l S kd k=true):S.bad=false∧S.ix+k<l.length:=by
 unfold isK at h;simp only [Ama,Bool.not_eq_true',Wkg] at h;exact ⟨h.1.1,by have:=h.1.2;omega⟩
theorem Xbf{L:List (List UInt8)}(h:inB L (peekQ l S 0)=true)(hn:inB L []=false):S.ix<l.length:=by
 refine (Veb (S:=S) (k:=0) fun e=>?_).2;rw [e,hn] at h;cases h
theorem Xp{s:List UInt8}(h:isQ l S s=true)(hs:s≠[]):PLt l S (adv S):=Zha (Vh h hs).2
theorem Wu{s:List UInt8}(hs:s≠[])(S:PSt):PLt l S (takeQ l s S):=by
 unfold takeQ;cases h:isQ l S s;exact Qv S;exact Xp h hs
theorem Um{s:List UInt8}(hs:s≠[])(S:PSt):PLe l S (takeQ l s S):=(Wu hs S).le
theorem Qw(S:PSt):PLt l S (nameQ l S).2:=by
 unfold nameQ;cases h:isK l S 1 0;exact Qv S;exact Zha (Uwc h).2
theorem Vud(S:PSt):PLe l S (nameQ l S).2:=(Qw S).le
theorem Vvd(S:PSt):PLe l S (semiQ l S):=by
 unfold semiQ;cases isQ l S [125] || decide ((l.length:Int)≤S.ix);exact Um Od S;exact PLe.refl S
theorem Wlc(S:PSt):PLe l S (endQ l S):=by
 unfold endQ;cases decide ((l.length:Int)≤(semiQ l S).ix);exact Vvd S;exact (Vvd S).trans (Uvc _)
theorem PLt.cond{b:Bool}{p q:Nd×PSt}(h:b=true→PLt l S p.2)(k:b=false→PLt l S q.2):PLt l S (bif b then p else q).2:=by
 cases b;exact k rfl;exact h rfl
theorem PLe.cond{α:Type}{b:Bool}{p q:α×PSt}(h:b=true→PLe l S p.2)(k:b=false→PLe l S q.2):PLe l S (bif b then p else q).2:=by
 cases b;exact k rfl;exact h rfl
theorem PLe.cond1{b:Bool}{p q:PSt}(h:b=true→PLe l S p)(k:b=false→PLe l S q):PLe l S (bif b then p else q):=by
 cases b;exact k rfl;exact h rfl
theorem Xeb(S:PSt):PLt l S (typQ l sz S).2:=by
 unfold typQ;refine PLt.cond (fun h=>Zha (Xbf h Od)) fun _=>?_;refine PLt.cond (fun h=>(Xp h Od).trans (Qw _)) fun _=>?_;refine PLt.cond (fun h=>(Xp h Od).trans ((Wu Od _).trans (Wu Od _))) fun _=>?_;refine PLt.cond (fun h=>(Xp h Od).trans (Wu Od _)) fun _=>?_;refine PLt.cond (fun h=>(Xp h Od).trans ((Wu Od _).trans (Wu Od _))) fun _=>?_;exact Qv S
theorem Wfa(S:PSt):PLt l S (fieldQ l sz S).2:=(Qw S).trans (Xeb _)
theorem Vwd:∀ (f:Nat) (acc:List Nd) (S:PSt),PLe l S (fldL l sz f acc S).2
 | 0,acc,S=>PLe.refl S
 | f+1,acc,S=>by
  rw [fldL];exact PLe.cond (fun h=>((Xp h Od).trans (Wfa _)).le.trans (Vwd f _ _)) fun _=>PLe.refl S
theorem Uxc(S:PSt):PLt l S (paramsQ l sz S).2:=by
 unfold paramsQ;refine (Wu (s:=[40]) Od S).tle ?_;exact PLe.cond (fun h=>(Xp h Od).le) fun _=>((Wfa _).tle ((Vwd _ _ _).trans (Um Od _))).le
theorem Vxd:∀ (f:Nat) (acc:List Nd) (S:PSt),PLe l S (strL l sz f acc S).2
 | 0,acc,S=>PLe.refl S
 | f+1,acc,S=>by
  rw [strL];exact PLe.cond (fun h=>(Wfa S).le.trans ((Wlc _).trans (Vxd f _ _))) fun _=>PLe.refl S
structure PzD (l:List Tok) (x:Pz):Prop where
  sts:∀ c S,PLe l S (x.sts c S).2
  bad:∀ c S,S.bad=true→x.sts c S=([],S)
  blk:∀ S,PLt l S (x.blk S).2
  ifs:∀ S,PLt l S (x.ifs S).2
  rcv:∀ S,PLt l S (x.rcv S).2
  sim:∀ c S,PLt l S (x.sim c S).2
  sel:∀ S,PLt l S (x.sel S).2
  st:∀ S,PLt l S (x.st S).2
  ex:∀ k S,PLt l S (x.ex k S).2
  un:∀ S,PLt l S (x.un S).2
  pri:∀ S,PLt l S (x.pri S).2
  opd:∀ S,PLt l S (x.opd S).2
theorem Jxf:PzD l pz0:=⟨fun _ S=>PLe.refl S,fun _ _ _=>rfl,Qv,Qv,Qv,fun _=>Qv,Qv,Qv,fun _=>Qv,Qv,Qv,Qv⟩
variable {x:Pz}
theorem Vyd(X:PzD l x)(c:Bool):∀ (f:Nat) (acc:List Nd) (S:PSt),PLe l S (stsL l x c f acc S).2
 | 0,acc,S=>PLe.refl S
 | f+1,acc,S=>by
  rw [stsL];exact PLe.cond (fun h=>(X.st S).le.trans ((Wlc _).trans (Vyd X c f _ _))) fun _=>PLe.refl S
theorem Qhf(X:PzD l x)(S:PSt):PLt l S (blkQ l sz x S).2:=(Wu Od S).tle ((X.sts _ _).trans (Um Od _))
theorem Qif(X:PzD l x)(S:PSt):PLt l S (ifsQ l sz x S).2:=by
 unfold ifsQ;refine (Wu (s:=[105,102]) Od S).trans ((X.ex 1 _).trans ((X.blk _).tle ?_));refine PLe.cond (fun h=>(Xp h Od).le.trans ?_) fun _=>PLe.refl _;exact PLe.cond (fun _=>(X.ifs _).le) fun _=>(X.blk _).le
theorem Qjf(X:PzD l x)(S:PSt):PLt l S (rcvQ l x S).2:=PLt.cond (fun _=>X.un S) fun _=>Qv S
theorem Qkf(X:PzD l x)(c:Bool)(S:PSt):PLt l S (simQ l sz x c S).2:=by
 unfold simQ;refine PLt.cond (fun h=>?_) fun _=>(X.ex 1 S).tle ?_;have h2:peekQ l S 1=[58,61]:=Wmg (Aqa.1 h).2;have h3:=(Veb (S:=S) (k:=1) (by rw [h2];decide)).2;have hn:(nameQ l S).2=adv S:=by unfold nameQ;rw [(Aqa.1 h).1];rfl
 rw [hn];refine (Zha O).trans ((Zha (S:=adv S) h3).trans ?_);exact PLt.cond (fun _=>X.rcv _) fun _=>X.ex 1 _;refine PLe.cond (fun h=>(Xp h Od).le.trans ?_) fun _=>?_;exact PLe.cond (fun _=>(X.rcv _).le) fun _=>(X.ex 1 _).le;refine PLe.cond (fun h=>(Xp h Od).le.trans (X.ex 1 _).le) fun _=>?_;exact PLe.cond1 (fun _=>Uvc _) fun _=>PLe.refl _
theorem Xhd(X:PzD l x)(S:PSt):PLt l S (casQ l x S).2:=PLt.cond (fun h=>Xp h Od) fun _=>(Wu Od S).trans (X.sim true _)
theorem Vzd(X:PzD l x):∀ (f:Nat) (acc:List Nd) (S:PSt),PLe l S (selL l sz x f acc S).2
 | 0,acc,S=>PLe.refl S
 | f+1,acc,S=>by
  rw [selL];exact PLe.cond (fun h=>(Xhd X S).le.trans ((Um Od _).trans ((X.sts true _).trans (Vzd X f _ _)))) fun _=>PLe.refl S
theorem Qlf(X:PzD l x)(S:PSt):PLt l S (selQ l sz x S).2:=(Wu Od S).tle ((Um Od _).trans ((Vzd X _ _ _).trans (Um Od _)))
theorem Yyg(X:PzD l x)(S:PSt):PLt l S (stQ l sz x S).2:=by
 unfold stQ;refine PLt.cond (fun h=>?_) fun _=>?_;refine (Xp h Od).trans ((Qw _).trans ((Xeb (sz:=sz) _).tle ?_));exact PLe.cond (fun h=>(Xp h Od).le.trans (X.ex 1 _).le) fun _=>PLe.refl _;refine PLt.cond (fun h=>?_) fun _=>?_
 have hi:S.ix<l.length:=by
  rcases Aua.1 h with h|h;exact (Vh h Od).2;exact (Vh h Od).2
 refine (Zha hi).trans ((X.pri _).tle ?_);exact PLe.cond1 (fun _=>Uvc _) fun _=>PLe.refl _;refine PLt.cond (fun h=>?_) fun _=>?_
 have hi:S.ix<l.length:=by
  rcases Aua.1 h with h|h;exact (Vh h Od).2;exact (Vh h Od).2
 exact (Zha hi).trans ((Wu Od _).trans ((X.ex 1 _).trans (Wu Od _)));refine PLt.cond (fun _=>X.ifs S) fun _=>?_;refine PLt.cond (fun h=>?_) fun _=>?_;refine (Xp h Od).trans (PLe.tlt ?_ (X.blk _));exact PLe.cond (fun _=>PLe.refl _) fun _=>(X.ex 1 _).le;refine PLt.cond (fun h=>?_) fun _=>?_;refine (Xp h Od).tle ?_;exact PLe.cond (fun _=>(X.ex 1 _).le) fun _=>PLe.refl _;refine PLt.cond (fun _=>X.sel S) fun _=>?_;exact PLt.cond (fun _=>X.blk S) fun _=>X.sim false S
theorem Jsd:levelQ []=0:=by decide
theorem Xcf{k:Nat}(h:exE l k S=false):S.ix<l.length:=by
 refine (Veb (S:=S) (k:=0) fun e=>?_).2;unfold exE at h;rw [e,Jsd] at h;cases h
theorem Yte(X:PzD l x)(k:Nat):∀ (f:Nat) (a:Nd) (S:PSt),PLe l S (exL l sz x k f a S).2
 | 0,a,S=>PLe.refl S
 | f+1,a,S=>by
  rw [exL];refine PLe.cond (fun _=>?_) fun _=>PLe.refl S;exact PLe.cond (fun _=>PLe.refl S) fun h=>(Zha (Xcf h)).le.trans ((X.ex _ _).le.trans (Yte X k f _ _))
theorem Yzg(X:PzD l x)(k:Nat)(S:PSt):PLt l S (exQ l sz x k S).2:=(X.un S).tle (Yte X k _ _ _)
theorem Xag(X:PzD l x)(S:PSt):PLt l S (unQ l sz x S).2:=by
 unfold unQ;refine PLt.cond (fun h=>?_) fun _=>?_
 have hi:S.ix<l.length:=by
  rcases Aua.1 h with h|h;exact (Vh h Od).2;exact (Vh h Od).2
 exact (Zha hi).trans (X.un _);exact PLt.cond (fun h=>(Xp h Od).trans (X.un _)) fun _=>X.pri S
theorem Uad(X:PzD l x):∀ (f:Nat) (acc:List Nd) (S:PSt),PLe l S (argL l x f acc S).2
 | 0,acc,S=>PLe.refl S
 | f+1,acc,S=>by
  rw [argL];exact PLe.cond (fun h=>(Xp h Od).le.trans ((X.ex 1 _).le.trans (Uad X f _ _))) fun _=>PLe.refl S
theorem Qmf(X:PzD l x)(a:Nd)(S:PSt):PLe l S (argQ l x a S).2:=PLe.cond (fun _=>PLe.refl S) fun _=>(X.ex 1 S).le.trans (Uad X _ _ _)
theorem Znc(X:PzD l x):∀ (f:Nat) (a:Nd) (S:PSt),PLe l S (priL l sz x f a S).2
 | 0,a,S=>PLe.refl S
 | f+1,a,S=>by
  rw [priL];refine PLe.cond (fun _=>?_) fun _=>PLe.refl S;refine PLe.cond (fun h=>(Xp h Od).le.trans ((Vud _).trans (Znc X f _ _))) fun _=>?_;refine PLe.cond (fun h=>(Xp h Od).le.trans ((X.ex 1 _).le.trans ((Um Od _).trans (Znc X f _ _)))) fun _=>?_;exact PLe.cond (fun h=>(Xp h Od).le.trans ((Qmf X _ _).trans ((Um Od _).trans (Znc X f _ _)))) fun _=>PLe.refl S
theorem Qnf(X:PzD l x)(S:PSt):PLt l S (priQ l sz x S).2:=(X.opd S).tle (Znc X _ _ _)
theorem Yue(S:PSt):PLe l S (mkeQ l S):=by
 unfold mkeQ;refine PLe.trans ?_ ((Um Od _).trans (Um Od _));exact PLe.cond1 (fun h=>(Xp h Od).le) fun _=>(Um Od _).trans (Um Od _)
theorem Qpf(X:PzD l x)(S:PSt):PLt l S (opdQ l sz x S).2:=by
 unfold opdQ;refine PLt.cond (fun _=>Qw S) fun _=>?_;refine PLt.cond (fun h=>Zha (Uwc h).2) fun _=>?_;refine PLt.cond (fun h=>?_) fun _=>?_
 have hi:S.ix<l.length:=by
  rcases Aua.1 h with h|h;exact (Vh h Od).2;exact (Vh h Od).2
 exact Zha hi;refine PLt.cond (fun h=>Xp h Od) fun _=>?_;refine PLt.cond (fun h=>(Xp h Od).trans ((X.ex 1 _).trans (Wu Od _))) fun _=>?_;refine PLt.cond (fun h=>(Xp h Od).trans ((Wu Od _).trans ((Qw _).trans (Wu Od _)))) fun _=>?_;refine PLt.cond (fun h=>(Xp h Od).trans ((Wu Od _).trans ((X.ex 1 _).trans (Wu Od _)))) fun _=>?_;refine PLt.cond (fun h=>(Xp h Od).trans ((Wu Od _).tle ((Yue _).trans ((X.ex 1 _).le.trans (Um Od _))))) fun _=>?_;refine PLt.cond (fun h=>(Xp h Od).trans ((Wu Od _).trans ((Wu Od _).trans (X.blk _)))) fun _=>?_;exact Qv S
theorem pzd_f(X:PzD l x):PzD l (pzF l sz x) :=
 ⟨fun c S=>Vyd X c _ _ S,fun c S h=>by
 show stsL l x c (l.length+2) [] S=_;rw [stsL];unfold stsC;rw [h];rfl,Qhf X,Qif X,Qjf X,Qkf X,Qlf X,Yyg X,Yzg X,Xag X,Qnf X,Qpf X⟩
theorem Xdf:∀ n,PzD l (pzN l sz n)
 | 0=>Jxf
 | n+1=>pzd_f (Xdf n)
theorem Ubd(X:PzD l x)(S:PSt):PLt l S (declQ l sz x S).2:=by
 unfold declQ;refine PLt.cond (fun h=>?_) fun _=>?_;exact (Xp h Od).trans ((Qw _).tle ((Um Od _).trans ((Um Od _).trans ((Vxd _ _ _).trans (Um Od _)))));refine PLt.cond (fun h=>(Xp h Od).trans ((Qw _).trans (Xeb _))) fun _=>?_;refine PLt.cond (fun h=>?_) fun _=>Qv S;refine (Xp h Od).trans ((Qw _).trans ((Uxc (sz:=sz) _).tle (PLe.trans ?_ (X.blk _).le)));exact PLe.cond (fun _=>PLe.refl _) fun _=>(Xeb _).le
end
def mutP(e _k:Nat):Bool:=Aca e 75
@[reducible] def gtP(n0:Nat):RelX:=⟨fun w w'=>GT mutP n0 w w',GT.refl mutP n0,fun h k=>GT.trans h k⟩
def pkCells(l:List Tok)(sz:Int)(tp:Option Addr)(tc:Nat)(S:PSt):List Fa:=[.slice tp l.length tc,.int .i64 S.ix,.int .i64 sz,.bool S.bad]
section
variable {P:Ea} {B:List Da→Aa→Prop} {n:Nat} {N T:Act→Aa→Prop} {X:List (Nat×(Act→Aa→Prop))} {σ:List Ent} {w:Aa}
theorem Qqf{x y:Code}{α:Type}(τ:α→List Ent)(R:α→Aa→Prop)(h1:SZ P B n x (fun a w=>∃ z,Kn n (τ z) a∧R z w) X T σ w)(h2:∀ z u,R z u→SZ P B n y N X T (τ z) u):SZ P B n (.seq x y) N X T σ w :=
 Vu fun K hK=>.mk fun a ha=>Code.wp_mono (fun e a w q=>by
 cases e with
 | normal =>
  obtain ⟨z,h,r⟩:=q;exact hK _ _ (h2 z w r) a h
 | _=>exact q) (h1 a ha)
end
theorem Obk.swap{w:Aa}{L:List (Nat×Ba×List Fa)}{x0 x1:Nat×Ba×List Fa}(E:Obk w (x0::x1::L)):Obk w (x1::x0::L):=by
 obtain ⟨h,h1,h2,h3⟩:=E;simp only [List.map_cons,List.nodup_cons,Ada,not_or] at h;refine ⟨?_,h2,h1,h3⟩;simp only [List.map_cons,List.nodup_cons,Ada,not_or];exact ⟨⟨fun q=>h.1.1 q.symm,h.2.1⟩,h.1.2,h.2.2⟩
structure PR (l:List Tok) (sz:Int) (n0 b:Nat) (tp:Option Addr) (tc:Nat) (S:PSt) (w:Aa):Prop where
  B:Blk w b 75 (pkCells l sz tp tc S)
  hb:n0≤b
  ht:w.ownsRow 0 94 3 (.slice tp l.length tc) l.length (toksCells l)
  hi:S.ix≤l.length
  hl:l.length≤100000
section
variable {l:List Tok} {sz:Int} {n0 b tc:Nat} {tp:Option Addr} {S S':PSt} {w w':Aa}
theorem PR.grow(h:PR l sz n0 b tp tc S w)(g:G w w'):PR l sz n0 b tp tc S w':=⟨h.B.grow g,h.hb,Xk h.ht g,h.hi,h.hl⟩
theorem PR.lt(h:PR l sz n0 b tp tc S w):n0≤b∧b<w.heap.size:=⟨h.hb,h.B.lt⟩
theorem Uyc{e e':Ba}{base z m j:Nat}{v:Fa}{xs l:List Fa}(h:w.ownsRow base e z v m xs)(hB:Blk w j e' l)(he:Aca e e'=false):v.ownBlock=none∨v.ownBlock≠some j:=.inr (fun hk=>by
 rcases h.2 with ⟨h1,_⟩|⟨g,cap,cur,h1,h2,h3,_⟩;rw [h1] at hk;cases hk;rw [h1] at hk;have:g=j:=by injection hk
 subst this;unfold Blk at hB;rw [hB] at h3;injection h3 with h3;injection h3 with _ h3;subst h3;simp at he)
theorem PR.set(h:PR l sz n0 b tp tc S w)(hg:w.grownBy w' (some b))(hB:Blk w' b 75 (pkCells l sz tp tc S'))(hi:S'.ix≤l.length):PR l sz n0 b tp tc S' w' :=
 ⟨hB,h.hb,Yo h.ht hg (Uyc h.ht h.B rfl),hi,h.hl⟩
theorem PR.keep{j:Nat}{e:Ba}{xs:List Fa}(h:PR l sz n0 b tp tc S w)(hg:w.grownBy w' (some j))(hB:Blk w j e xs)(he:Aca 94 e=false)(he':Aca 75 e=false):PR l sz n0 b tp tc S w' :=
 ⟨h.B.keep hg (by intro q;injection q with q;exact Yhg h.B hB he' q),h.hb,Yo h.ht hg (Uyc h.ht hB he),h.hi,h.hl⟩
theorem PR.keepO{X:List Nat}{lo:Nat}{ks:List Nd}{s:Fa}(h:PR l sz n0 b tp tc S w)(hg:w.grownBy w' s.ownBlock)(hO:OwnN X lo w ks s):PR l sz n0 b tp tc S w':=by
 have hne:∀ k,s.ownBlock=some k→NdR w k:=hO.nd;refine ⟨h.B.keep hg fun q=>?_,h.hb,Yo h.ht hg ?_,h.hi,h.hl⟩;obtain ⟨cs,fr,hn⟩:=hne b q.symm;have:=h.B;unfold Blk at this;rw [this] at hn;injection hn with hn;injection hn with _ hn;exact absurd hn Od;rcases h.ht.2 with ⟨h1,_⟩|⟨g,cap,cur,h1,h2,h3,_⟩;exact .inl (by rw [h1];rfl);refine .inr fun q=>?_;rw [h1] at q;obtain ⟨cs,fr,hn⟩:=hne g q.symm;rw [h3] at hn;injection hn with hn;injection hn with _ hn;exact absurd hn Od
theorem Xec(h:w.ownsRow 0 94 3 (.slice tp l.length tc) l.length (toksCells l)):∀ i,i<l.length→tp=some ⟨pb tp,po tp,none⟩∧RowAt w (pb tp) (po tp+i*3) (tokCells (tkn l i)):=fun i hi=>by
 obtain ⟨g,c',hv',_,hR,_⟩:=Vna h O;injection hv' with e1 _ _;subst e1;have e:tkn l i=l[i]:=by simp [tkn,Bga,Apa hi]
 rw [e];exact ⟨rfl,Vnb (f:=tokCells) (z:=3) (fun _=>rfl) hR hi⟩
end
section
variable {l:List Tok} {sz:Int} {n0 b tc:Nat} {tp:Option Addr} {S:PSt} {w:Aa}
theorem Vqa(k:Nat)(hk:k≤10)(h:PR l sz n0 b tp tc S w):Ret PP 67 #[.pointer (some ⟨b,0,none⟩),.int .i64 (k:Nat)] w fun r w'=>r=Str (peekQ l S k)∧G w w':=by
 have hi:=h.hi;have hl:=h.hl;have hat:=Xec h.ht;have g:=G.refl w;refine WK 55 [0,1] Tryz.func67 ?_;refine AU ?_;refine Zv J J J (fun _=>Xs Yv (Zz J id) (Zz J id) (fun hc=>by have:=hc.2;simp only [Aja,Wlg] at this;omega) (fun hc=>(hat (S.ix+k) (by have:=hc.2;simp only [Aja,Wlg] at this;omega)).1)) ?_;refine AU ?_;refine Xz J J J (Zw Yk (Zz J id) (fun hc=>((hat (S.ix+k) (by have:=hc.2;simp only [Aja,Wlg] at this;omega)).2).one (i:=0) J)) ?_;refine AU ?_;refine Zv J J J (fun _=>Xs Yv (Zz J id) (Zz J id) (fun hc=>by have:=hc.1.2;simp only [Aja,Wlg] at this;omega) (fun hc=>(hat (S.ix+k) (by have:=hc.1.2;simp only [Aja,Wlg] at this;omega)).1)) ?_;refine AU ?_;refine Xz J J J (Zw Yk (Zz J id) (fun hc=>((hat (S.ix+k) (by have:=hc.1.2;simp only [Aja,Wlg] at this;omega)).2).one (i:=0) J)) ?_;refine IF (fun h1=>?_) fun h1=>?_;have e:peekQ l S k=[]:=by unfold peekQ;rw [h1];rfl
 refine Zn (Zu (Xc J (Ze (kq (Xw (Qd J J ?_))))));rw [e];exact ⟨rfl,g⟩;have e:peekQ l S k=(tkn l (S.ix+k)).text:=by unfold peekQ;rw [h1];rfl
 have hlt:S.ix+k<l.length:=by simp only [Aja,Wlg] at h1;have:=h1.1.2;omega
 refine Yp (kq (Zn (Zu (Zx J (Un J (Xm Ue J (Xr Vf J (h.B.at_ J) (Zx J (Zs J (fun _=>Xs Yv (Zc J) (Zc J) (fun hc=>O) (fun hc=>(hat (S.ix+k) hlt).1)) (Xm Qh J (Ut J (Zw Xb (Zc J) (fun hc=>((hat (S.ix+k) hlt).2).one (i:=1) J)) (Xc J (Ze (kq (Xw (Qd J J ?_))))))))))))))));rw [e];exact ⟨rfl,g⟩
theorem Wya(s:List UInt8)(h:PR l sz n0 b tp tc S w):Ret PP 69 #[.pointer (some ⟨b,0,none⟩),Str s] w fun r w'=>r = .bool (isQ l S s)∧G w w':=by
 have g:=G.refl w;refine WK 9 [0,1] Tryz.func69 ?_;refine AU ?_;refine CP (Vqa 0 O (h.grow g)) (fun w6 g6=>?_);have g:=g.trans g6;refine RTN ?_;exact ⟨rfl,g⟩
theorem Vt(h:PR l sz n0 b tp tc S w):Ret PP 43 #[.pointer (some ⟨b,0,none⟩)] w fun r w'=>r = .int .i64 (offQ l sz S)∧G w w':=by
 have hi:=h.hi;have hat:=Xec h.ht;have g:=G.refl w;refine WK 28 [0] Tryz.func43 ?_;refine AU ?_;refine Xe [3,3,3,0,3,3,3,0,3,3] [true,true,true,true,true,true,true,true,true,true] [0,1,3,7,0,16,48,112,240,511] mix KR ?_;have g:=gdr g;refine IF (fun h1=>?_) fun h1=>?_;have e:offQ l sz S=(tkn l S.ix).pos:=by unfold offQ;rw [h1];rfl
 have hlt:S.ix<l.length:=by have:=Wmg h1;omega
 refine Zn (Xe [3,3,3,0,3,3,3,0,3,3,0,3] [true,true,true,true,true,true,true,true,true,true,true,true] [0,1,3,7,0,16,48,112,255,511,1023,2047] mix KR ?_);have g:=gdr g;refine Zx J (Un J (Xm Ue J (Xr Vf J (h.B.at_ J) (Zx J (Un J (Xm Qc J (Xr Yk J (h.B.at_ J) (Zs J (fun _=>Xs Yv (Zc J) (Zc J) (fun hc=>O) (fun hc=>(hat S.ix hlt).1)) (Xm Wbb J (Ut J (Zw Yk (Zc J) (fun hc=>((hat S.ix hlt).2).one (i:=2) J)) (Xc J (Ze (kq (Xw (Qd J J ?_)))))))))))))));rw [e];exact ⟨rfl,g⟩;have e:offQ l sz S=sz:=by unfold offQ;rw [h1];rfl
 refine Yp (kq (Zn (Zu (Zx J (Un J (Xm Yma J (Xr Yk J (h.B.at_ J) (Xc J (Ze (kq (Xw (Qd J J ?_))))))))))));rw [e];exact ⟨rfl,g⟩
theorem Vvb(kd:Int)(k:Nat)(hk:k≤10)(h:PR l sz n0 b tp tc S w):Ret PP 91 #[.pointer (some ⟨b,0,none⟩),.int .i64 kd,.int .i64 (k:Nat)] w fun r w'=>r = .bool (isK l S kd k)∧G w w':=by
 have hi:=h.hi;have hl:=h.hl;have hat:=Xec h.ht;have g:=G.refl w;refine WK 40 [0,1,2] Tryz.func91 ?_;refine AU ?_;refine Zv J J J (fun _=>Xs Yv (Zz J id) (Zz J id) (fun hc=>by have:=hc.2;simp only [Ama,Wkg] at this;omega) (fun hc=>(hat (S.ix+k) (by have:=hc.2;simp only [Ama,Wkg] at this;omega)).1)) ?_;refine AU ?_;refine Xz J J J (Zw Yk (Zz J id) (fun hc=>((hat (S.ix+k) (by have:=hc.2;simp only [Ama,Wkg] at this;omega)).2).one (i:=0) J)) ?_;refine RTN ?_;exact ⟨rfl,g⟩
theorem Wqa(h:PR l sz n0 b tp tc S w):Ret PP 72 #[.pointer (some ⟨b,0,none⟩)] w fun r w'=>r = .tuple #[]∧PR l sz n0 b tp tc (failQ S) w'∧GT mutP n0 w w':=by
 have hi:=h.hi;have g:=GT.refl mutP n0 w;refine WK 5 [0] Tryz.func72 ?_;refine AU ?_;refine Yc J Zfe (Zc J) Xh J h.B J J ?_;intro wS1 hgS1 _ BS;have g:=Uw g hgS1 h.B rfl h.hb;have h:=h.set (S':=failQ S) hgS1 BS hi;refine Ze (Yia J ?_);exact ⟨rfl,h,g⟩
theorem Wg(s:List UInt8)(hs:s≠[])(h:PR l sz n0 b tp tc S w):Ret PP 42 #[.pointer (some ⟨b,0,none⟩),Str s] w fun r w'=>r = .tuple #[]∧PR l sz n0 b tp tc (takeQ l s S) w'∧GT mutP n0 w w':=by
 have hi:=h.hi;have hl:=h.hl;have g:=GT.refl mutP n0 w;refine WK 17 [0,1] Tryz.func42 ?_;refine AU ?_;refine CL (Wya s h) ?_;rintro v6 w6 ⟨rfl,g6⟩;refine ⟨fun _=>g6,?_⟩;have g:=gtg g g6;have h:=h.grow (g6);refine IF (fun h1=>?_) fun h1=>?_;have hq:isQ l S s=false:=by simpa using h1
 have e:takeQ l s S=failQ S:=by unfold takeQ;rw [hq];rfl
 refine AU ?_;refine CL (Wqa h) ?_;rintro v9 w9 ⟨rfl,h,g9⟩;refine ⟨nw1,?_⟩;have g:=g.trans g9;refine RTN ?_;rw [e];exact ⟨rfl,h,g⟩;have hq:isQ l S s=true:=by simpa using h1
 have e:takeQ l s S=adv S:=by unfold takeQ;rw [hq];rfl
 have hlt:=(Vh hq hs).2;refine AU ?_;refine Yc J Wz (Zc J) (Zc J) J h.B J J ?_;intro wS1 hgS1 _ BS;have g:=Uw g hgS1 h.B rfl h.hb;have h:=h.set (S':=adv S) hgS1 BS hlt;refine Ze (Yia J ?_);rw [e];exact ⟨rfl,h,g⟩
theorem Jt(s:List UInt8)(hs:s≠[])(h:PR l sz n0 b tp tc S w):Ret PP 92 #[.pointer (some ⟨b,0,none⟩),Str s] w fun r w'=>r = .bool (isQ l S s)∧PR l sz n0 b tp tc (bif isQ l S s then adv S else S) w'∧GT mutP n0 w w':=by
 have hi:=h.hi;have hl:=h.hl;have g:=GT.refl mutP n0 w;refine WK 16 [0,1] Tryz.func92 ?_;refine AU ?_;refine CL (Wya s h) ?_;rintro v7 w7 ⟨rfl,g7⟩;refine ⟨fun _=>g7,?_⟩;have g:=gtg g g7;have h:=h.grow (g7);refine IF (fun h1=>?_) fun h1=>?_;have hq:isQ l S s=false:=by simpa using h1
 refine RTN ?_;rw [hq];exact ⟨rfl,h,g⟩;have hq:isQ l S s=true:=by simpa using h1
 have hlt:=(Vh hq hs).2;refine AU ?_;refine Yc J Wz (Zc J) (Zc J) J h.B J J ?_;intro wS1 hgS1 _ BS;have g:=Uw g hgS1 h.B rfl h.hb;have h:=h.set (S':=adv S) hgS1 BS hlt;refine RTN ?_;rw [hq];exact ⟨rfl,h,g⟩
theorem Vra(h:PR l sz n0 b tp tc S w):Ret PP 68 #[.pointer (some ⟨b,0,none⟩)] w fun r w'=>r=Str (nameQ l S).1∧PR l sz n0 b tp tc (nameQ l S).2 w'∧GT mutP n0 w w':=by
 have hi:=h.hi;have hl:=h.hl;have g:=GT.refl mutP n0 w;refine WK 27 [0] Tryz.func68 ?_;refine AU ?_;refine CL (Vvb 1 0 O h) ?_;rintro v4 w4 ⟨rfl,g4⟩;refine ⟨fun _=>g4,?_⟩;have g:=gtg g g4;have h:=h.grow (g4);refine IF (fun h1=>?_) fun h1=>?_;have hq:isK l S 1 0=false:=by simpa using h1
 have e:nameQ l S=([],failQ S):=by unfold nameQ;rw [hq];rfl
 refine AU ?_;refine CL (Wqa h) ?_;rintro v7 w7 ⟨rfl,h,g7⟩;refine ⟨nw1,?_⟩;have g:=g.trans g7;refine RTN ?_;rw [e];exact ⟨rfl,h,g⟩;have hq:isK l S 1 0=true:=by simpa using h1
 have e:nameQ l S=((tkn l S.ix).text,adv S):=by unfold nameQ;rw [hq];rfl
 have hlt:=(Uwc hq).2;refine AU ?_;refine Yc J Wz (Zc J) (Zc J) J h.B J J ?_;intro wS1 hgS1 _ BS;have g:=Uw g hgS1 h.B rfl h.hb;have h:=h.set (S':=adv S) hgS1 BS hlt;have hat:=Xec h.ht S.ix hlt;refine Ze (kq (Zn (Xe [3,3,3,0,3,3,3,0,3,3,3,0,3] [true,true,true,true,true,true,true,true,true,true,true,true,true] [0,1,3,7,0,16,48,112,240,511,1023,2047,4095] mix KR ?_)));have g:=gtd g;have h:=h.grow (G.drew _);refine Zx J (Un J (Xm Ue J (Xr Vf J (h.B.at_ J) (Zx J (Un J (Xm Qc J (Xr Yk J (h.B.at_ J) (Zs J (fun _=>Xja (Zc J) Xh (fun _=>by show _≤((S.ix+1:Nat):Int)-1∧((S.ix+1:Nat):Int)-1≤_;omega)) (Zs J (fun _=>Xs Yv (Zc J) (Zc J) (fun hc=>by show (0:Int)≤((S.ix+1:Nat):Int)-1∧((S.ix+1:Nat):Int)-1<_;omega) (fun hc=>hat.1)) (Xm Qh J (Ut J (Zw Xb (Zc J) (fun hc=>by have:=(hat.2.one (i:=1) J);rw [show (((adv S).ix:Int)-1).toNat=S.ix by show (((S.ix+1:Nat):Int)-1).toNat=_;omega];exact this)) (Xc J (Ze (kq (Xw (Qd J J ?_))))))))))))))));rw [e];exact ⟨rfl,h,g⟩
theorem Yve(h:PR l sz n0 b tp tc S w):Ret PP 71 #[.pointer (some ⟨b,0,none⟩)] w fun r w'=>r = .tuple #[]∧PR l sz n0 b tp tc (semiQ l S) w'∧GT mutP n0 w w':=by
 have hi:=h.hi;have hl:=h.hl;have g:=GT.refl mutP n0 w;refine WK 18 [0] Tryz.func71 ?_;refine AU ?_;refine Xe [3,1,3,3,3,3,0,3,3,3,0,3,3,3] [true,true,true,true,true,true,true,true,true,true,true,true,true,true] [0,1,3,7,15,31,63,7,135,391,903,1927,4095,8191] mix KR ?_;have g:=gtd g;have h:=h.grow (G.drew _);refine AU ?_;refine CL (Wya [125] h) ?_;rintro v3 w3 ⟨rfl,g3⟩;refine ⟨fun _=>g3,?_⟩;have g:=gtg g g3;have h:=h.grow (g3);refine IF (fun h1=>?_) fun h1=>?_;have e:semiQ l S=S:=by unfold semiQ;rw [h1];rfl
 refine Xw (Ube J ?_);rw [e];exact ⟨rfl,h,g⟩;have e:semiQ l S=takeQ l [59] S:=by unfold semiQ;rw [h1];rfl
 refine AU ?_;refine CL (Wg [59] Od h) ?_;rintro v17 w17 ⟨rfl,h,g17⟩;refine ⟨nw1,?_⟩;have g:=g.trans g17;refine Ze (Yia J ?_);rw [e];exact ⟨rfl,h,g⟩
theorem Xef(s:List UInt8)(w:Aa):Ret PP 165 #[Str s] w fun r w'=>r = .int .i64 (levelQ s:Nat)∧G w w':=by
 have g:=G.refl w;refine WK 22 [0] Tryz.func165 ?_;refine IF (fun h1=>?_) fun h1=>?_;skip;refine RTN ?_;unfold levelQ;rw [h1];exact ⟨rfl,g⟩;skip;refine IF (fun h2=>?_) fun h2=>?_;skip;refine RTN ?_;unfold levelQ;rw [h1,h2];exact ⟨rfl,g⟩;skip;refine AU ?_;refine' OR [2,3] (fun hb3=>?y3) (kq ?n3)
 case y3 =>
  refine AU ?_;refine' OR [2,3] (fun hb4=>?y4) knr
  case y4 =>
   refine AU ?_;refine' OR [2,3] (fun hb5=>?y5) knr
   case y5 =>
    refine AU ?_;refine' OR [2,3] (fun hb6=>?y6) knr
    case y6 =>
     refine AU ?_;refine' OR [2,3] (fun hb7=>?y7) knr
     case y7 =>
      refine AU ?_;refine SK [8,2,3] ?_;exact Ze knr
 case n3 =>
  refine IF (fun h8=>?_) fun h8=>?_;have e3:inB [[61,61],[33,61],[60],[60,61],[62],[62,61]] s=true:=by rw [← h8];simp [inB]
  refine RTN ?_;unfold levelQ;rw [h1,h2,e3];exact ⟨rfl,g⟩;have e3:inB [[61,61],[33,61],[60],[60,61],[62],[62,61]] s=false:=by rw [← h8];simp [inB]
  refine AU ?_;refine' OR [2,3] (fun hb9=>?y9) (kq ?n9)
  case y9 =>
   refine AU ?_;refine SK [15,2,3] ?_;exact Ze knr
  case n9 =>
   refine IF (fun h10=>?_) fun h10=>?_;have e4:inB [[43],[45]] s=true:=by rw [← h10];simp [inB]
   refine RTN ?_;unfold levelQ;rw [h1,h2,e3,e4];exact ⟨rfl,g⟩;have e4:inB [[43],[45]] s=false:=by rw [← h10];simp [inB]
   refine AU ?_;refine' OR [2] (fun hb11=>?y11) (kq ?n11)
   case y11 =>
    refine AU ?_;refine' OR [2] (fun hb12=>?y12) knr
    case y12 =>
     refine AU ?_;refine SK [18,2] ?_;exact Ze knr
   case n11 =>
    refine IF (fun h13=>?_) fun h13=>?_;have e5:inB [[42],[47],[37]] s=true:=by rw [← h13];simp [inB]
    refine RTN ?_;unfold levelQ;rw [h1,h2,e3,e4,e5];exact ⟨rfl,g⟩;have e5:inB [[42],[47],[37]] s=false:=by rw [← h13];simp [inB]
    refine RTN ?_;unfold levelQ;rw [h1,h2,e3,e4,e5];exact ⟨rfl,g⟩
end
end Go.Rk
