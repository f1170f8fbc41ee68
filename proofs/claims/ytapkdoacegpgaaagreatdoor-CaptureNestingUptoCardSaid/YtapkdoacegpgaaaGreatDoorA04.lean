/- Merged texts of one road: Cpw, Cpy, Cpt, Cpz, Cqa, CkC, Skl, TypL, TypH, CkD, CkE, Shp, Txt, Pre, Tpa, Tpb, Tpc, CkF. Conditions: each text's own. -/
import Derived.Test.YtapkdoacegpgaaaGreatDoorA02
import Derived.Test.YtapkdoacegpgaaaGreatDoorA03
import Derived.Lib.ItoaNum
import Derived.Test.YtapkdoacegpgaaaGreatDoorA01
set_option linter.unusedSimpArgs false
set_option linter.unusedVariables false
namespace Go.Proofs
end Go.Proofs
namespace Go.Rk
open Go.Proofs
open Go Go.RowKit
def GV(V:Nat→Prop)(w w':World):Prop:=GB V w w'
section
variable {V V1 V2:Nat→Prop} {w w' w0 A C:World}
theorem GV.refl(V:Nat→Prop)(w:World):GV V w w:=GB.refl V w
theorem GV.trans(h:GV V w0 w)(k:GV V w w'):GV V w0 w':=GB.trans h k
theorem GV.size(h:GV V w w'):w.heap.size≤w'.heap.size:=GB.size h
theorem GV.of_g(h:G w w'):GV V w w':=GB.of_g h
theorem Ycb{b:Nat}(h:GV V w0 w)(hg:w.grownBy w' (some b))(hb:w0.heap.size≤b):GV V w0 w':=Yuf h hg (.inr hb)
theorem Xlc{b:Nat}(h:GV V w0 w)(hg:w.grownBy w' (some b))(hb:V b):GV V w0 w':=Yuf h hg (.inl hb)
theorem Wvd{row:Option Nat}(h:GV V w0 w)(hg:w.grownBy w' row)(hr:∀ k,row=some k→V k):GV V w0 w':=GB.trans h (GB.of_only hg hr)
theorem Yjd(h:GV V w0 w)(hs:∀ k,V1 k→V k∨w0.heap.size≤k)(k:GV V1 w w'):GV V w0 w' :=
 ⟨k.os.trans h.os,k.tape.trans h.tape,k.output.trans h.output,Nat.le_trans h.size k.size,fun j hj hn=>(k.block j (Nat.lt_of_lt_of_le hj h.size) (fun hv=>(hs j hv).elim hn (by omega))).trans (h.block j hj hn)⟩
theorem nsub{n b:Nat}(h:∀ k,V2 k→V1 k∨n≤k)(hb:b<n)(h1:¬ V1 b):¬ V2 b:=fun h2=>(h b h2).elim h1 (by omega)
theorem vsub{n m:Nat}(h:∀ k,V2 k→V1 k∨n≤k)(hn:m≤n)(h1:∀ k,V1 k→V k∨m≤k):∀ k,V2 k→V k∨m≤k:=fun k hk=>(h k hk).elim (h1 k) fun q=>.inr (by omega)
theorem Blk.gv{b:Nat}{e:TypeId}{l:List Value}(h:Blk w b e l)(g:GV V w w')(hb:¬ V b):Blk w' b e l:=Blk.gb h g hb
theorem Kd.gv{D:Nat→Prop}{ks:List Nd}{v:Value}(h:Kd w D ks v)(g:GV V w w')(hD:∀ b,D b→¬ V b):Kd w' D ks v:=Zqa h (fun _ h _=>h) fun b hb hlt=>GB.block g b hlt (hD b hb)
theorem Obk.gv{L:List (Nat×TypeId×List Value)}(E:Obk w L)(g:GV V w w')(h:∀ b∈L.map Prod.fst,¬ V b):Obk w' L :=
 ⟨E.1,Uqa E.2 fun b e l hm hB=>hB.gv g (h b (List.mem_map_of_mem (f:=Prod.fst) hm))⟩
end
structure VisJ (vf:FuncId) (vcs:Array Value) (D:Nat→Prop) (n0:Nat) (Q:Nd×Int→Prop) (J:List (Nd×Int)→(Nat→Prop)→World→Prop):Prop where
  go:goFn PP vf=true
  g:∀ pre V A C,J pre V A→G A C→J pre V C
  keep:∀ pre V A C b,J pre V A→A.grownBy C (some b)→¬ V b→n0≤b→J pre V C
  lt:∀ pre V A,J pre V A→∀ k,V k→k<A.heap.size
  st:∀ pre x V A p c,Q x→pre.length<1000000→J pre V A→n0≤A.heap.size→(∀ k,D k→¬ V k)→Kd A D x.1.kids (.slice p x.1.kids.length c)→
    Ret PP vf (#[] ++ #[ndV x.1 (.slice p x.1.kids.length c),.int .i64 x.2]++vcs) A fun _ A'=>∃ V',J (pre++[x]) V' A'∧(∀ k,V' k→V k∨A.heap.size≤k)∧GV V A A'
def visK(t:Nd)(v:Int)(i:Nat):List (Nd×Int):=(t.kids.take i).flatMap fun k=>(k,v)::visN k (upL k v)
theorem Jdd{t:Nd}{v:Int}{i:Nat}(h:i<t.kids.length):visK t v i++[(t.kids[i],v)]++visN t.kids[i] (upL t.kids[i] v)=visK t v (i+1):=by
 unfold visK;rw [Jh h,List.flatMap_append,List.append_assoc,List.flatMap_cons,List.flatMap_nil,List.append_nil];rfl
theorem Zpg(t:Nd)(v:Int):visK t v t.kids.length=visN t v:=by unfold visK;rw [List.take_length,Xma]
theorem Wwd{α:Type}{f:Nd→List α}:∀ (l:List Nd),(∀ k∈l,(f k).length=count k)→(l.flatMap f).length=(l.map count).sum
 | [],_=>rfl
 | k::l,h=>by
  rw [List.flatMap_cons,List.length_append,List.map_cons,List.sum_cons,h k List.mem_cons_self,Wwd l fun x hx=>h x (List.mem_cons_of_mem _ hx)]
theorem Wxd:∀ t v,(visN t v).length+1=count t:=by
 refine Nd.ind fun t ih v=>?_;rw [Xma,Uw,Nat.add_comm,Wwd];intro k hk;exact ih k hk _
theorem Zqg(t:Nd)(v:Int)(i:Nat):(visK t v i).length=((t.kids.take i).map count).sum:=Wwd _ fun k _=>Wxd k _
theorem Ufg{t:Nd}{v:Int}{i:Nat}(h:i<t.kids.length):(t.kids[i],v)∈visN t v∧∀ x∈visN t.kids[i] (upL t.kids[i] v),x∈visN t v:=by
 rw [Xma];exact ⟨List.mem_flatMap.2 ⟨_,List.getElem_mem h,List.mem_cons_self⟩,fun x hx=>List.mem_flatMap.2 ⟨_,List.getElem_mem h,List.mem_cons_of_mem _ hx⟩⟩
section
variable {vf:FuncId} {vcs:Array Value} {D:Nat→Prop} {n0 c2 c3:Nat} {Q:Nd×Int→Prop} {J:List (Nd×Int)→(Nat→Prop)→World→Prop}
set_option maxHeartbeats 1000000 in
theorem Vsf(Y:VisJ vf vcs D n0 Q J)(hDn:∀ k,D k→k<n0):∀ (t:Nd) (v:Value) (pre:List (Nd×Int)) (lev:Int) (V:Nat→Prop) (w:World),n0≤w.heap.size→
 Blk w c2 Zla [.func (.func vf) #[] vcs]→Blk w c3 Zla [.func (.func Vqa) #[] #[.pointer (some ⟨c2,0,none⟩),.pointer (some ⟨c3,0,none⟩)]]→¬ V c2→¬ V c3→(∀ k,D k→¬ V k)→
 Kd w D t.kids v→J pre V w→(∀ x∈visN t lev,Q x)→count t≤1000000→pre.length+count t≤1000000→0≤lev→lev+count t≤2000000→
 Ret PP Vqa #[ndV t v,.int .i64 lev,.pointer (some ⟨c2,0,none⟩),.pointer (some ⟨c3,0,none⟩)] w fun r w'=>∃ V',J (pre++visN t lev) V' w'∧(∀ k,V' k→V k∨w.heap.size≤k)∧GV V w w':=by
 refine Nd.ind fun t ih v pre lev V w hn hc2 hc3 m2 m3 hd hk hj hQ hcn hpl h0 hlc=>?_;obtain ⟨p,c,rfl,hcap,hks⟩:=hk;have hk0:Kd w D t.kids (.slice p t.kids.length c):=⟨p,c,rfl,hcap,hks⟩;have g:=GV.refl V w;have hlen:=Wz t;refine WK 31 [0,1,2,3] Ycc ?_;refine AU ?_;refine Wya O (Zd O) O ?_;intro b4 w4 N4;have l4:=Yea N4 g.size;first|have n4:¬ V1 b4:=fun h=>by have:=Y.lt _ _ _ hj _ h;have:=N4.at_;omega|have n4:¬ V b4:=fun h=>by have:=Y.lt _ _ _ hj _ h;have:=N4.at_;omega
 have g:=g.trans (GV.of_g (N4.g));have hc2:=hc2.grow (N4.g);have hc3:=hc3.grow (N4.g);have hk0:=hk0.grow (N4.g);have hj:=Y.g _ _ _ _ hj (N4.g);have hn:=Nat.le_trans hn (G.size (N4.g));have E:=(Xia _).new N4;refine AU ?_;have hnd1:=E.1;refine Xo (fun (x:Nat×(Nat→Prop)) u1=>match x with|⟨i,V1⟩=>(i≤t.kids.length∧n0≤u1.heap.size∧Blk u1 c2 Zla [.func (.func vf) #[] vcs]∧Blk u1 c3 Zla [.func (.func Vqa) #[] #[.pointer (some ⟨c2,0,none⟩),.pointer (some ⟨c3,0,none⟩)]]∧¬ V1 c2∧¬ V1 c3∧(∀ k,D k→¬ V1 k)∧Kd u1 D t.kids (.slice p t.kids.length c)∧J (pre++visK t lev i) V1 u1∧(∀ k,V1 k→V k∨w.heap.size≤k)∧¬ V1 b4)∧GV V w u1) _ [(1,True,_),(2,True,_),(3,True,_),(10,True,_),(11,True,_)] (fun (x:Nat×(Nat→Prop))=>match x with|⟨i,V1⟩=>[(12,True,.int .i64 i)]) (fun (x:Nat×(Nat→Prop))=>match x with|⟨i,V1⟩=>t.kids.length-i) ((0,V)) ⟨⟨Nat.zero_le _,hn,hc2,hc3,m2,m3,hd,hk0,by rw [show visK t lev 0=[] from rfl,List.append_nil];exact hj,fun k hk=>.inl hk,n4⟩,g⟩ (Zs (blkE E.g0) (Zz _)) (Za O (Za O (Za O (Za O (Za O (Za O (Zo _))))))) ?_;clear E;rintro ⟨i,V1⟩ u1 ⟨hI1,gl1⟩ ⟨B4,_⟩;replace B4:Blk _ _ _ _:=B4;have g:=gl1;clear hn hc2 hc3 m2 m3 hd hk0 hj n4;obtain ⟨hi,hn,hc2,hc3,m2,m3,hd,hk0,hj,hs,n4⟩:=hI1;have hlt2:=hc2.lt;have hlt3:=hc3.lt;have E:=Jo (L:=[(b4,_,_)]) hnd1 ⟨B4,trivial⟩ rfl;refine IF (fun h1=>?_) fun h1=>?_;replace h1:i<t.kids.length:=by simp only [decide_eq_true_eq] at h1;omega
 obtain ⟨hpe,p',c',hcell,hkid⟩:=hk0.opt1 h1;have hck:=Zfa h1;obtain ⟨hq1,hq2⟩:=Ufg (v:=lev) h1;have hvl:=Zqg t lev i;refine Yb (kq (Zi (Yo (Zi (Zk (Ji Zc O O (by omega) hpe (Ve Zh O O hcell (Jm O Zt O ?_))))))));intro b7 w7 N7;have l7:=Yea N7 g.size;first|have n7:¬ V1 b7:=fun h=>by have:=Y.lt _ _ _ hj _ h;have:=N7.at_;omega|have n7:¬ V b7:=fun h=>by have:=Y.lt _ _ _ hj _ h;have:=N7.at_;omega
 have g:=g.trans (GV.of_g (N7.g));have hc2:=hc2.grow (N7.g);have hc3:=hc3.grow (N7.g);have hk0:=hk0.grow (N7.g);have hkid:=hkid.grow (N7.g);have hj:=Y.g _ _ _ _ hj (N7.g);have hn:=Nat.le_trans hn (G.size (N7.g));replace E:=E.new N7;refine Ygb Qr O O O E.g0 ?_;intro wS1 hgS1 _ BS;replace E:=E.s0 hgS1 BS;have g:=Ycb g hgS1 (by omega);have hc2:=hc2.keep hgS1 (by intro h;injection h with h;have:=N7.at_;omega);have hc3:=hc3.keep hgS1 (by intro h;injection h with h;have:=N7.at_;omega);have hk0:=hk0.keep hgS1 (fun b hb _ he=>by injection he with he;have:=hDn b hb;have:=N7.at_;omega);have hkid:=hkid.keep hgS1 (fun b hb _ he=>by injection he with he;have:=hDn b hb;have:=N7.at_;omega);have hj:=Y.keep _ _ _ _ _ hj hgS1 n7 (by have:=N7.at_;omega);have hn:=Nat.le_trans hn hgS1.size;have hb4:=E.g1.lt;have hb7:=E.g0.lt;refine Ze (kq (Zi (Zk (Yp Zda O (hc2.at_ O) (Ve Zh O O E.g0.row (Zp O (Yga O (Yi Y.go (Zd O) (aqc O (aqc O aq0)) O) (Y.st _ (t.kids[i],lev) V1 _ _ _ (hQ _ hq1) (by rw [List.length_append];omega) hj hn hd hkid) ?_)))))));rintro v19 w19 ⟨V2,hj2,hs2,g19⟩;refine ⟨nw1,?_⟩;replace E:=E.gv g19 (List.forall_mem_cons.2 ⟨n7,List.forall_mem_cons.2 ⟨n4,List.forall_mem_nil _⟩⟩);have m2':=nsub hs2 hc2.lt m2;have m3':=nsub hs2 hc3.lt m3;have hd':∀ k,D k→¬ V2 k:=fun k hk=>nsub hs2 (Nat.lt_of_lt_of_le (hDn k hk) hn) (hd k hk);have n4':=nsub hs2 hb4 n4;have n7':=nsub hs2 hb7 n7;have hs':=vsub hs2 g.size hs;have g:=Yjd g hs g19;replace hc2:=hc2.gv g19 m2;replace hc3:=hc3.gv g19 m3;replace hk0:=hk0.gv g19 hd;replace hkid:=hkid.gv g19 hd;replace hn:=Nat.le_trans hn g19.size;have hj:=hj2;have hb4:=E.g1.lt;have hb7:=E.g0.lt
 refine Ze (kq (Zi (Zk (Zp O (Yr O (Ze (kq (Zi (Zi (Zk (Yf Xl O (Yp Yh O (E.g0.at_ O) (Zya O O (Ze (kq (Wn O (fun h2=>?_) (fun h2=>?_)))))))))))))))));have e2:upL t.kids[i] lev=lev+1:=by unfold upL;rw [show decide (t.kids[i].kind=38)=true from h2];rfl
 refine Zk (Zp O (Jta O O (by omega) (Yr O (Ze (kq (Zk (Yp Zda O (hc3.at_ O) (Ve Zh O O E.g0.row (Zp O (Yga O (Yi Vra (Zd O) (aqc O (aqc O aq0)) O) (ih _ (List.getElem_mem h1) _ _ _ V2 _ hn hc2 hc3 m2' m3' hd' hkid hj (fun x hx=>hQ x (hq2 x (by rw [e2];exact hx))) (by omega) (by simp only [List.length_append,List.length_singleton];omega) (by omega) (by omega)) ?_))))))))));rintro v29 w29 ⟨V3,hj3,hs3,g29⟩;refine ⟨nw1,?_⟩;replace E:=E.gv g29 (List.forall_mem_cons.2 ⟨n7',List.forall_mem_cons.2 ⟨n4',List.forall_mem_nil _⟩⟩);have hd3:∀ k,D k→¬ V3 k:=fun k hk=>nsub hs3 (Nat.lt_of_lt_of_le (hDn k hk) hn) (hd' k hk);have m23:=nsub hs3 hc2.lt m2';have m33:=nsub hs3 hc3.lt m3';have n43:=nsub hs3 hb4 n4';have hs4:=vsub hs3 g.size hs';have g:=Yjd g hs' g29;replace hc2:=hc2.gv g29 m2';replace hc3:=hc3.gv g29 m3';replace hk0:=hk0.gv g29 hd';replace hn:=Nat.le_trans hn g29.size;have hj3:J (pre++visK t lev (i+1)) V3 w29:=by rw [← Jdd h1,e2];simpa [List.append_assoc] using hj3
 refine Ze (kq (Zk (Jta O O (by omega) (Zp O (Vf [(12,_,_),(1,_,_),(2,_,_),(3,_,_),(10,_,_),(11,_,_)] (Za O (Za O (Za O (Za O (Za O (Za O (Zo _))))))) (Ze (fun a ha=>?_)))))));exact ⟨(i+1,V3),ha,⟨⟨h1,hn,hc2,hc3,m23,m33,hd3,hk0,hj3,hs4,n43⟩,g⟩,(Zs (blkE E.g1) (Zz _)),by show t.kids.length-(i+1)<t.kids.length-i;omega⟩;have e2:upL t.kids[i] lev=lev:=by unfold upL;rw [show decide (t.kids[i].kind=38)=false from h2];rfl
 refine Yb (kq (Zk (Yp Zda O (hc3.at_ O) (Ve Zh O O E.g0.row (Zp O (Yga O (Yi Vra (Zd O) (aqc O (aqc O aq0)) O) (ih _ (List.getElem_mem h1) _ _ _ V2 _ hn hc2 hc3 m2' m3' hd' hkid hj (fun x hx=>hQ x (hq2 x (by rw [e2];exact hx))) (by omega) (by simp only [List.length_append,List.length_singleton];omega) (by omega) (by omega)) ?_))))));rintro v29 w29 ⟨V3,hj3,hs3,g29⟩;refine ⟨nw1,?_⟩;replace E:=E.gv g29 (List.forall_mem_cons.2 ⟨n7',List.forall_mem_cons.2 ⟨n4',List.forall_mem_nil _⟩⟩);have hd3:∀ k,D k→¬ V3 k:=fun k hk=>nsub hs3 (Nat.lt_of_lt_of_le (hDn k hk) hn) (hd' k hk);have m23:=nsub hs3 hc2.lt m2';have m33:=nsub hs3 hc3.lt m3';have n43:=nsub hs3 hb4 n4';have hs4:=vsub hs3 g.size hs';have g:=Yjd g hs' g29;replace hc2:=hc2.gv g29 m2';replace hc3:=hc3.gv g29 m3';replace hk0:=hk0.gv g29 hd';replace hn:=Nat.le_trans hn g29.size;have hj3:J (pre++visK t lev (i+1)) V3 w29:=by rw [← Jdd h1,e2];simpa [List.append_assoc] using hj3
 refine AU ?_;refine SK [12,1,2,3,10,11] ?_;refine Ze (fun a ha=>?_);exact ⟨(i+1,V3),ha,⟨⟨h1,hn,hc2,hc3,m23,m33,hd3,hk0,hj3,hs4,n43⟩,g⟩,(Zs (blkE E.g1) (Zz _)),by show t.kids.length-(i+1)<t.kids.length-i;omega⟩;replace h1:i=t.kids.length:=by simp only [decide_eq_false_iff_not] at h1;omega
 subst h1;rw [Zpg] at hj;refine Jl O (Qn O ?_);exact ⟨V1,hj,hs,g⟩
theorem Wyd(Y:VisJ vf vcs D n0 Q J)(hDn:∀ k,D k→k<n0)(t:Nd)(v:Value)(V:Nat→Prop)(w:World)(hn:n0≤w.heap.size)(hd:∀ k,D k→¬ V k)(hk:Kd w D t.kids v)(hj:J [] V w)(hQ:∀ x∈visN t 0,Q x)(hcn:count t≤1000000) :
 Ret PP Jnc #[ndV t v,.func (.func vf) #[] vcs] w fun r w'=>∃ V',J (visN t 0) V' w'∧(∀ k,V' k→V k∨w.heap.size≤k)∧GV V w w':=by
 have g:=GV.refl V w;refine WK 9 [0,1] Wyc ?_;refine AU ?_;refine Wya O (Zd O) O ?_;intro b2 w2 N2;have l2:=Yea N2 g.size;have n2:¬ V b2:=fun h=>by have:=Y.lt _ _ _ hj _ h;have:=N2.at_;omega
 have g:=g.trans (GV.of_g (N2.g));have hk:=hk.grow (N2.g);have hj:=Y.g _ _ _ _ hj (N2.g);have hn:=Nat.le_trans hn (G.size (N2.g));have E:=(Xia _).new N2;refine Wya O (Zd O) O ?_;intro b3 w3 N3;have l3:=Yea N3 g.size;have n3:¬ V b3:=fun h=>by have:=Y.lt _ _ _ hj _ h;have:=N3.at_;omega
 have g:=g.trans (GV.of_g (N3.g));have hk:=hk.grow (N3.g);have hj:=Y.g _ _ _ _ hj (N3.g);have hn:=Nat.le_trans hn (G.size (N3.g));replace E:=E.new N3;refine Ze (kq (Zi (Zk (Jm O Vua O ?_))));intro b4 w4 N4;have l4:=Yea N4 g.size;have n4:¬ V b4:=fun h=>by have:=Y.lt _ _ _ hj _ h;have:=N4.at_;omega
 have g:=g.trans (GV.of_g (N4.g));have hk:=hk.grow (N4.g);have hj:=Y.g _ _ _ _ hj (N4.g);have hn:=Nat.le_trans hn (G.size (N4.g));replace E:=E.new N4;refine Ze (kq (Zi (Zk (Zq O (fun _=>Ybd (aq0) (aqc O (aqc O aq0))) (Ygb Vta O O O E.g0 ?_)))));intro wS1 hgS1 _ BS;replace E:=E.s0 hgS1 BS;have g:=Ycb g hgS1 (by omega);have hk:=hk.keep hgS1 (fun b hb _ he=>by injection he with he;have:=hDn b hb;have:=l4;have:=N2.at_;omega);have hj:=Y.keep _ _ _ _ _ hj hgS1 n4 (by have:=N4.at_;have:=N3.at_;have:=N2.at_;omega);have hn:=Nat.le_trans hn hgS1.size;refine AU ?_;refine Yga O (Yi Vra (Zd O) (aqc O (aqc O aq0)) O) (Vsf Y hDn t v [] 0 V _ hn E.g1 E.g0 n3 n4 hd hk hj hQ hcn (by simp;omega) (by omega) (by omega)) ?_;rintro v8 w8 ⟨V2,hj2,hs2,g8⟩;refine ⟨nw1,?_⟩;have hs3:=vsub hs2 g.size (fun k hk=>.inl hk);have g:=Yjd g (fun k hk=>.inl hk) g8;refine Ze (Qn O ?_);exact ⟨V2,hj2,hs3,g⟩
end
theorem Jed{w:World}{base z m:Nat}{e:TypeId}{v:Value}{xs:List Value}(h:w.ownsRow base e z v m xs)(hm:0<m) :
 ∃ b cap cur,v = .slice (some ⟨b,0,none⟩) m cap∧base≤b∧Blk w b e cur∧m≤cap∧cap≤maxLen∧cur.length=cap*z∧cur.take (m*z)=xs:=by
 rcases h.2 with ⟨_,h2⟩|⟨g,cap,cur,h1,h2,h3,h4,h5,h6,h7⟩;omega;exact ⟨g,cap,cur.toList,h1,h2,by unfold Blk;simpa using h3,h4,h5,by simpa using h6,h7⟩
theorem Yse{w':World}{base z m b cap o:Nat}{e:TypeId}{cur vs xs:List Value}(hb:base≤b)(hB:Blk w' b e (cur.take o++vs++cur.drop (o+vs.length)))(h1:m≤cap)(h2:cap≤maxLen)(h3:cur.length=cap*z)(h4:cur.take (m*z)=xs)(ho:o+vs.length≤m*z) :
 w'.ownsRow base e z (.slice (some ⟨b,0,none⟩) m cap) m (xs.take o++vs++xs.drop (o+vs.length)):=by
 have hmc:m*z≤cap*z:=Nat.mul_le_mul_right _ h1;have hx:xs.length=m*z:=by rw [← h4,List.length_take];omega
 have hl:(cur.take o++vs++cur.drop (o+vs.length)).length=cap*z:=by
  simp only [List.length_append,List.length_take,List.length_drop];omega
 have hlx:(xs.take o++vs++xs.drop (o+vs.length)).length=m*z:=by
  simp only [List.length_append,List.length_take,List.length_drop];omega
 refine ⟨hlx,.inr ⟨b,cap,(cur.take o++vs++cur.drop (o+vs.length)).toArray,rfl,hb,by unfold Blk at hB;exact hB,h1,h2,by simpa using hl,?_⟩⟩;rw [← h4];have e1:(cur.take (m*z)).take o=cur.take o:=by rw [List.take_take,Nat.min_eq_left (by omega)]
 have e2:(cur.take (m*z)).drop (o+vs.length)=(cur.drop (o+vs.length)).take (m*z-(o+vs.length)):=by rw [List.drop_take]
 rw [e1,e2];show (cur.take o++vs++cur.drop (o+vs.length)).take (m*z)=_;have hlo:(cur.take o++vs).length=o+vs.length:=by simp only [List.length_append,List.length_take];omega
 rw [List.take_append,hlo,List.take_of_length_le (by omega)]
def litV(pre:List (Nd×Int)):List Nd:=(pre.filter fun x=>decide (x.1.kind=38)).map Prod.fst
theorem Zrg{pre:List (Nd×Int)}{x:Nd×Int}(h:decide (x.1.kind=38)=true):litV (pre++[x])=litV pre++[x.1]:=by
 unfold litV;rw [List.filter_append,List.filter_cons_of_pos (p:=fun x:Nd×Int=>decide (x.1.kind=38)) h,List.map_append];rfl
theorem Zsg{pre:List (Nd×Int)}{x:Nd×Int}(h:decide (x.1.kind=38)=false):litV (pre++[x])=litV pre:=by
 unfold litV;rw [List.filter_append,List.filter_cons_of_neg (p:=fun x:Nd×Int=>decide (x.1.kind=38)) (by rw [h];decide),List.filter_nil,List.append_nil]
structure JL (D:Nat→Prop) (n0 bo:Nat) (pre:List (Nd×Int)) (V:Nat→Prop) (A:World):Prop where
  ln:pre.length≤1000000
  ex:∃ s xs,Blk A bo Jdb [s]∧A.ownsRow n0 Ys 9 s (litV pre).length xs∧KRow A D (litV pre) xs∧∀ k,V k↔k=bo∨s.ownBlock=some k
section
variable {D:Nat→Prop} {n0 bo:Nat}
theorem Ztg(t:Nd):litV (visN t 0)=litN t:=Vqe t 0
theorem Zug(pre:List (Nd×Int)):(litV pre).length≤pre.length:=by unfold litV;rw [List.length_map];exact List.length_filter_le _ _
theorem Vve{pre:List (Nd×Int)}{x:Nd×Int}{V:Nat→Prop}{w C:World}{v:Value}{g0 cap:Nat}{xs:List Value}(h1:decide (x.1.kind=38)=true)(hpl:pre.length<1000000)
 (hB:Blk C bo Jdb [.slice (some ⟨g0,0,none⟩) ((litV pre).length+1) cap]) (hR:C.ownsRow n0 Ys 9 (.slice (some ⟨g0,0,none⟩) ((litV pre).length+1) cap) ((litV pre).length+1) ((xs++ndCells nd0 (.slice none 0 0)).take (0+(((litV pre).length:Nat):Int).toNat*9)++ndCells x.1 v++(xs++ndCells nd0 (.slice none 0 0)).drop (0+(((litV pre).length:Nat):Int).toNat*9+9)))
 (hxl:xs.length=(litV pre).length*9) (hX:KRow C D (litV pre) xs) (hk:Kd C D x.1.kids v) (hVg:V g0∨w.heap.size≤g0) (hVb:V bo) (g:GV V w C) :
 ∃ V',JL D n0 bo (pre++[x]) V' C∧(∀ k,V' k→V k∨w.heap.size≤k)∧GV V w C:=by
 have e0:0+(((litV pre).length:Nat):Int).toNat*9=xs.length:=by rw [hxl,Int.toNat_natCast];omega
 have e1:(xs++ndCells nd0 (.slice none 0 0)).take (0+(((litV pre).length:Nat):Int).toNat*9)=xs:=by rw [e0,List.take_left'];rfl
 have e2:(xs++ndCells nd0 (.slice none 0 0)).drop (0+(((litV pre).length:Nat):Int).toNat*9+9)=[]:=List.drop_eq_nil_of_le (by rw [e0,List.length_append];exact Nat.le_refl _);rw [e1,e2,List.append_nil] at hR;refine ⟨fun k=>k=bo∨(Value.slice (some ⟨g0,0,none⟩) ((litV pre).length+1) cap).ownBlock=some k,⟨by simp;omega,_,xs++ndCells x.1 v,hB,?_,?_,fun k=>Iff.rfl⟩,fun k hk=>?_,g⟩;rw [Zrg h1,List.length_append];exact hR;rw [Zrg h1];exact Zyb hX (Yc hk);rcases hk with e|e;subst e;exact .inl hVb;have e:some g0=some k:=e;injection e with e;subst e;exact hVg
set_option maxHeartbeats 1000000 in
theorem Zvg(hDn:∀ k,D k→k<n0)(hbo:n0≤bo)(pre:List (Nd×Int))(x:Nd×Int)(V:Nat→Prop)(w:World)(p:Option Addr)(c:Nat)(hj:JL D n0 bo pre V w)(hpl:pre.length<1000000)(hn:n0≤w.heap.size)(hk:Kd w D x.1.kids (.slice p x.1.kids.length c)) :
 Ret PP Uha #[ndV x.1 (.slice p x.1.kids.length c),.int .i64 x.2,.pointer (some ⟨bo,0,none⟩)] w fun _ A'=>∃ V',JL D n0 bo (pre++[x]) V' A'∧(∀ k,V' k→V k∨w.heap.size≤k)∧GV V w A':=by
 obtain ⟨_,s,xs,hB,hR,hX,hV⟩:=hj;have hll:=Zug pre;have g:=GV.refl V w;refine WK 14 [0,1,2] Yzb ?_;refine AU ?_;refine Wya O (Zd O) O ?_;intro b3 w3 N3;have l3:=Yea N3 g.size;have g:=g.trans (GV.of_g (N3.g));have hB:=hB.grow (N3.g);have hR:=Xz hR (N3.g);have hX:=hX.grow (N3.g);have hk:=hk.grow (N3.g);have E:=(Xia _).new N3;refine IF (fun h1=>?_) fun h1=>?_;replace h1:decide (x.1.kind=38)=true:=h1;obtain ⟨sa,sc,rfl,_⟩:=Voa hR;have hne:=Zna hR hB rfl;refine Xu (rowR none) [0,0,3,1,2,3,2,2] [0,0,1,0,15,31,63,31] mix (by kernel_rfl) [0,1,2,3,4,5,6,7] O ?_;have g:=g.trans (GV.of_g (G.drew _));replace E:=E.dr;have hB:=hB.grow (G.drew _);have hR:=Xz hR (G.drew _);have hX:=hX.grow (G.drew _);have hk:=hk.grow (G.drew _);refine Wh 0 O O (fun w1 hx=>Zw Zf (Zd O) (fun _=>(hB.keep hx (fun h=>nomatch h)).at_ O)) (Wh 1 O O (fun w1 hx=>Zy Zh (Zd O) O (fun _=>(E.g0.keep hx (fun h=>nomatch h)).row)) (Zx 2 O O (fun _=>Vna Zc (Zd O)) (Zu 3 O O ?_)));refine Zv (L':=[4,5,6,7]) [0,0,3,1,2,3,2,2] O O O ?_;refine Wp _ O Zc Zt (pqc O pq0) O O ?_;intro b11 w11 N11;have l11:=Yea N11 g.size;have g:=g.trans (GV.of_g (N11.g));have hB:=hB.grow (N11.g);have hR:=Xz hR (N11.g);have hX:=hX.grow (N11.g);have hk:=hk.grow (N11.g);replace E:=E.new N11;refine Yj ((N11.g).only _) ?_;refine Zu 4 O O ?_;refine Ye (L':=[5,6,7]) [0,0,3,1,2,3,2,2] O O O O ?_;have hxl:xs.length=(litV pre).length*9:=hR.1;have hlt:=fun k hk=>(hR.lt k hk);have hV2:=hV;refine Jg O Zc Zt O (by decide) (Zd O) hR (Zd O) O E.g0.row O (by simp only [maxLen];omega) (by omega) (by have:=g.size;omega) ?_;intro a12 c12 w12 hR2 hg12 hat12;have hB:=hB.keep hg12 (fun e=>hne e.symm)
 have hX:=hX.keep hg12 (fun b hb _ he=>by have:=hDn b hb;have:=(hlt b he.symm).1;omega);have hk:=hk.keep hg12 (fun b hb _ he=>by have:=hDn b hb;have:=(hlt b he.symm).1;omega);have hxw:=hg12.size;have hwg:=g.size;have g:=Wvd g hg12 (fun k hk=>(hV k).2 (.inr hk));obtain ⟨g0,cap,cur,he,hg0,hC,q1,q2,q3,q4⟩:=Jed hR2 (by omega);injection he with he1 _ he2;subst he1 he2;have hne2:=Zna hR2 hB rfl
 have hat:∀ k,some g0=some k→V k∨w.heap.size≤k:=fun k hk=>by
  rcases hat12 with q|q;exact .inl ((hV k).2 (.inr (q.symm.trans hk)));exact .inr (by have e:some g0=some _:=q;rw [hk] at e;injection e with e;omega)
 have hVg:V g0∨w.heap.size≤g0:=hat g0 rfl;refine Yy ?_;refine Zx 5 O O (fun _=>Qna Zc (Zd O) (Zd O) (fun _=>by omega)) (Uza 6 7 O O ?_ ?_);refine Ye (L':=[7]) [0,0,3,1,2,3,2,2] rfl rfl rfl rfl ?_;refine Xi O Qr (Zd O) (Zd O) O O hC (by rw [Nat.ble_eq];show 0+_*9+9≤_;rw [q3];simp only [Int.toNat_natCast];omega) O ?_;intro w13 hg13 hz13 hC13;have hR3:=Yse (vs:=ndCells x.1 (.slice p x.1.kids.length c)) hg0 hC13 q1 q2 q3 q4 (by show 0+_*9+9≤_;simp only [Int.toNat_natCast];omega);have hB:=hB.keep hg13 (fun e=>hne2 e.symm);have hX:=hX.keep hg13 (fun b hb _ he=>by injection he with he;have:=hDn b hb;omega);have hk:=hk.keep hg13 (fun b hb _ he=>by injection he with he;have:=hDn b hb;omega);have g:=hVg.elim (fun h=>Xlc g hg13 h) (fun h=>Ycb g hg13 h);refine Yy ?_;refine Zu 7 O O ?_;refine Ye (L':=[]) [0,0,3,1,2,3,2,2] O O O O ?_;refine Yq O Xpa (Zd O) (Zd O) O hB O O ?_;intro w14 hg14 hz14 hB14;have hB:=hB14;first|have hR3:=Xw hR3 hg14 (.inr fun e=>hne2 e)|have hC:=hC.keep hg14 (fun e=>hne2 e)
 have hX:=hX.keep hg14 (fun b hb _ he=>by injection he with he;have:=hDn b hb;omega);have hk:=hk.keep hg14 (fun b hb _ he=>by injection he with he;have:=hDn b hb;omega);have g:=Xlc g hg14 ((hV bo).2 (.inl rfl));refine Yy ?_;refine TK [] ?_;refine Qp (Qn O ?_);exact Vve h1 hpl hB hR3 hxl hX hk hVg ((hV bo).2 (.inl rfl)) g;refine Ye (L':=[6]) [0,0,3,1,2,3,2,2] rfl rfl rfl rfl ?_;refine Yq O Xpa (Zd O) (Zd O) O hB O O ?_;intro w14 hg14 hz14 hB14;have hB:=hB14;first|have hR3:=Xw hR3 hg14 (.inr fun e=>hne2 e)|have hC:=hC.keep hg14 (fun e=>hne2 e)
 have hX:=hX.keep hg14 (fun b hb _ he=>by injection he with he;have:=hDn b hb;omega);have hk:=hk.keep hg14 (fun b hb _ he=>by injection he with he;have:=hDn b hb;omega);have g:=Xlc g hg14 ((hV bo).2 (.inl rfl));refine Yy ?_;refine Zu 6 O O ?_;refine Ye (L':=[]) [0,0,3,1,2,3,2,2] O O O O ?_;refine Xi O Qr (Zd O) (Zd O) O O hC (by rw [Nat.ble_eq];show 0+_*9+9≤_;rw [q3];simp only [Int.toNat_natCast];omega) O ?_;intro w13 hg13 hz13 hC13;have hR3:=Yse (vs:=ndCells x.1 (.slice p x.1.kids.length c)) hg0 hC13 q1 q2 q3 q4 (by show 0+_*9+9≤_;simp only [Int.toNat_natCast];omega);have hB:=hB.keep hg13 (fun e=>hne2 e.symm);have hX:=hX.keep hg13 (fun b hb _ he=>by injection he with he;have:=hDn b hb;omega);have hk:=hk.keep hg13 (fun b hb _ he=>by injection he with he;have:=hDn b hb;omega);have g:=hVg.elim (fun h=>Xlc g hg13 h) (fun h=>Ycb g hg13 h);refine Yy ?_;refine TK [] ?_;refine Qp (Qn O ?_);exact Vve h1 hpl hB hR3 hxl hX hk hVg ((hV bo).2 (.inl rfl)) g;replace h1:decide (x.1.kind=38)=false:=h1;refine Yb (Qn O ?_);exact ⟨V,⟨by simp;omega,s,xs,hB,by rw [Zsg h1];exact hR,by rw [Zsg h1];exact hX,hV⟩,fun k hk=>.inl hk,g⟩
theorem Zif(hDn:∀ k,D k→k<n0)(hbo:n0≤bo):VisJ Uha #[.pointer (some ⟨bo,0,none⟩)] D n0 (fun _=>True) (fun pre V A=>JL D n0 bo pre V A) where
 go:=Ucb
 g:=fun pre V A C ⟨hl,s,xs,hB,hR,hX,hV⟩ g=>⟨hl,s,xs,hB.grow g,Xz hR g,hX.grow g,hV⟩
 keep:=fun pre V A C b ⟨hl,s,xs,hB,hR,hX,hV⟩ hg hb hn=>⟨hl,s,xs,hB.keep hg (fun e=>hb ((hV b).2 (.inl (by injection e with e;exact e.symm)))),Xw hR hg (.inr fun e=>hb ((hV b).2 (.inr e))),
  hX.keep hg (fun k hk _ e=>by injection e with e;have:=hDn k hk;omega),hV⟩
 lt:=fun pre V A ⟨hl,s,xs,hB,hR,hX,hV⟩ k hk=>((hV k).1 hk).elim (fun e=>e▸hB.lt) fun e=>(hR.lt k e).2
 st:=fun pre x V A p c _ hl hj hn hd hk=>Zvg hDn hbo pre x V A p c hj hl hn hk
theorem Vzc(t:Nd)(v:Value)(w:World):Ret PP Zzc #[ndV t v] w fun r w'=>r = .bool (fnB t)∧G w w':=by
 have g:=G.refl w;refine WK 11 [0] Vzb ?_;refine BM fun _ _ _ _ g E=>?_;refine RTN ?_;exact ⟨rfl,g⟩
theorem Xhf(t:Nd)(v:Value)(D:Nat→Prop)(w:World)(hk:Kd w D t.kids v)(hcn:count t≤1000000) :
 Ret PP Zxc #[ndV t v] w fun r w'=>Kd w' (fun b=>D b∨w.heap.size≤b) (bif fnB t then litN t else []) r∧G w w':=by
 have hk0:Kd w (fun b=>D b∧b<w.heap.size) t.kids v:=hk.lt;have g:=G.refl w;refine WK 11 [0] Vyb ?_;refine BM fun _ _ _ _ g E=>?_;refine AU ?_;refine CP (Vzc t v _) (fun w5 g5=>?_);have g:=g.trans g5;replace E:=E.grow g5;refine IF (fun h1=>?_) fun h1=>?_;replace h1:fnB t=false:=by simpa using h1
 refine RTN ?_;rw [h1];exact ⟨Qta _ _,g⟩;replace h1:fnB t=true:=by simpa using h1
 refine Yb (kq (Zi (Zk (AN fun b3 _ _ l3 g E=>?_))));refine Ze (kq (Zi (Zk (Ve Zh rfl rfl E.g1.row (Zq rfl (fun _=>Ybd (aq0) (aqc rfl aq0)) (CL (Wyd (Zif (D:=fun b=>D b∧b<w.heap.size) (n0:=w.heap.size) (bo:=b3) (fun k hk=>hk.2) l3) (fun k hk=>hk.2) t v (fun k=>k=b3∨(Value.slice none 0 0).ownBlock=some k) _ g.size (fun k hk h=>h.elim (fun e=>by have:=hk.2;omega) fun e=>by cases e) (hk0.grow g) ⟨Nat.zero_le _,_,_,E.g0,Zja _ _ _ _,Wdd,fun k=>Iff.rfl⟩ (fun x _=>trivial) hcn) ?_))))));rintro v9 w9 ⟨V2,⟨_,s,xs,hB,hR,hX,hV⟩,hs2,q9⟩;refine ⟨nw1,?_⟩;have g:=g_gb g q9 (fun k hk=>hk.elim (fun e=>e▸l3) fun e=>by cases e);clear E;rw [Ztg] at hR hX;refine RTN ?_;rw [h1];exact ⟨Jbf hR rfl (hX.mono fun b hb _=>.inl hb.1) (fun b hb=>.inr (hR.lt b hb).1),g⟩
end
def allT(t:Nd):List Nd:=(listN t).filter fun k=>fnB k
theorem Vtf(t:Nd)(v:Value)(D:Nat→Prop)(w:World)(hk:Kd w D t.kids v)(hc:count t≤1000000):Ret PP Jbe #[ndV t v] w fun r w'=>Kd w' (fun b=>D b∨w.heap.size≤b) (allT t) r∧G w w':=by
 have hln:=Jia t;have hk0:Kd w (fun b=>D b∧b<w.heap.size) t.kids v:=hk.lt;have g:=G.refl w;refine WK 27 [0] Zbe ?_;refine BM fun _ _ _ _ g E=>?_;refine AU ?_;refine CL (Jtf t v (fun b=>D b∧b<w.heap.size) _ (hk0.grow g) hc) ?_;rintro v7 w7 ⟨hk7,g7⟩;refine ⟨fun _=>g7,?_⟩;have hlw:w.heap.size≤w7.heap.size:=(g.trans g7).size;have hk7:Kd w7 (fun b=>(D b∨w.heap.size≤b)∧b<w7.heap.size) (listN t) v7:=(hk7.mono fun b hb _=>hb.elim (fun h=>.inl h.1) fun h=>.inr (Nat.le_trans g.size h)).lt;have g:=g.trans g7;obtain ⟨n1,hn1⟩:∃ n,n=w7.heap.size:=⟨_,rfl⟩;rw [← hn1] at hk7 hlw;obtain ⟨p7,c7,rfl,_⟩:=id hk7;replace E:=E.grow g7;refine AU ?_;replace E:=E.sel [false];refine Xo (fun (x:Nat×Option Addr×Nat) u1=>match x with|⟨i,sa,ca⟩=>(i≤(listN t).length∧n1≤u1.heap.size∧Kd u1 (fun b=>(D b∨w.heap.size≤b)∧b<n1) (listN t) (.slice p7 (listN t).length c7)∧OwnK Ys (fun b=>(D b∨w.heap.size≤b)) n1 u1 (((listN t).take i).filter fun k=>fnB k) (.slice sa (((listN t).take i).filter fun k=>fnB k).length ca))∧G w u1) _ [(2,True,_),(4,True,_)] (fun (x:Nat×Option Addr×Nat)=>match x with|⟨i,sa,ca⟩=>[(3,True,.slice sa (((listN t).take i).filter fun k=>fnB k).length ca),(5,True,.int .i64 i)]) (fun (x:Nat×Option Addr×Nat)=>match x with|⟨i,sa,ca⟩=>(listN t).length-i) ((0,none,0)) ⟨⟨Nat.zero_le _,Nat.le_of_eq hn1,hk7,Xub _ _ _ _⟩,g⟩ (Zz _) (Za O (Za O (Za O (Za O (Zo _))))) ?_;rintro ⟨i,sa,ca⟩ u1 ⟨hI1,gl1⟩ _;have g:=gl1;obtain ⟨hi,hnu,hk7,hO⟩:=hI1;have hfl:=Wtd (p:=fun k=>fnB k) (l:=listN t) (i:=i);refine IF (fun h1=>?_) fun h1=>?_;replace h1:i<(listN t).length:=by simp only [decide_eq_true_eq] at h1;omega
 obtain ⟨hpe,p',c',hcell,hkid⟩:=hk7.opt1 h1;have hks:=hk7;have gz:=G.refl u1;refine AU ?_;refine CP (Jja (listN t)[i] _ _) (fun w18 g18=>?_);have g:=g.trans g18;have hO:=hO.grow (g18);have hk7:=hk7.grow (g18);have hcell:=hcell.grow g18;have hkid:=hkid.grow g18;have hnu:=Nat.le_trans hnu g18.size;have hks:=hk7;refine IF (fun h2=>?_) fun h2=>?_;replace h2:fnB (listN t)[i]=true:=h2;have ef:=Ybb (p:=fun k=>fnB k) h1;rw [h2] at ef;refine CM fun _ _ N24 _ g E=>?_;have hO:=hO.grow (N24.g);have hkid:=hkid.grow N24.g;have hb24:=E.g0.lt;have hs24:=N24.g.size;have hOo:=hO;refine Vda O Zc Zt O (Zd O) hO (Zd O) O E.g0.row (Yc (hkid.mono fun k hk _=>⟨hk.1,fun he=>by have:=hO.ge k he.symm;omega⟩)) (by first|omega|(simp;omega)) (by have:=g.size;omega) (.inr (by have:=g.size;omega)) ?_;intro a25 c25 w25 hO hg25;replace E:=E.sel [false];have g:=Qc g hg25 (fun k hk=>(by have:=hOo.ge k hk;omega));refine AU ?_;refine SK [3,5,2,4] ?_;refine Ze (fun a ha=>?_);rw [show ((listN t).take i).filter (fun k=>fnB k)++[(listN t)[i]]=((listN t).take (i+1)).filter (fun k=>fnB k) from ef.symm] at ha hO;exact ⟨(i+1,a25,c25),ha,⟨⟨h1,by have:=hg25.size;have:=N24.g.size;omega,(hks.grow N24.g).keep hg25 (fun k hk _ he=>by have:=hOo.ge k he.symm;omega),hO⟩,g⟩,(Zz _),by show (listN t).length-(i+1)<(listN t).length-i;omega⟩;replace h2:fnB (listN t)[i]=false:=h2;have ef:=Ybb (p:=fun k=>fnB k) h1;rw [h2,cond_false,List.append_nil] at ef;refine AU ?_;refine SK [3,5,2,4] ?_;refine Ze (fun a ha=>?_);rw [← ef] at ha hO;exact ⟨(i+1,sa,ca),ha,⟨⟨h1,hnu,hk7,hO⟩,g⟩,(Zz _),by show (listN t).length-(i+1)<(listN t).length-i;omega⟩
 replace h1:i=(listN t).length:=by simp only [decide_eq_false_iff_not] at h1;omega
 subst h1;rw [List.take_length] at hO;refine RTN ?_;unfold allT;rw [List.take_length];exact ⟨hO.kd fun b hb=>hb,g⟩
def useE(v:Int)(k:Nd):List (Nd×Int):=(bif useB k then [(k,v)] else [])++useN k (upL k v)
def useK(t:Nd)(v:Int)(i:Nat):List (Nd×Int):=(t.kids.take i).flatMap (useE v)
theorem Uac:∀ t v,(useN t v).length+1≤count t:=by
 refine Nd.ind fun t ih v=>?_;rw [Xff,Uw,Nat.add_comm];refine Nat.add_le_add_left (Zlb _ fun k hk=>?_) 1;have:=ih k hk (upL k v);rw [List.length_append];cases useB k;simp only [cond_false,List.length_nil];omega;simp only [cond_true,List.length_cons,List.length_nil];omega
theorem Zwg(t:Nd)(v:Int)(i:Nat):(useK t v i).length≤((t.kids.take i).map count).sum:=Zlb _ fun k _=>by
 have:=Uac k (upL k v);unfold useE;rw [List.length_append];cases useB k;simp only [cond_false,List.length_nil];omega;simp only [cond_true,List.length_cons,List.length_nil];omega
theorem Vuf{t:Nd}{v:Int}{i:Nat}(h:i<t.kids.length):useK t v (i+1)=useK t v i++useE v t.kids[i]:=by
 unfold useK;rw [Jh h,List.flatMap_append,List.flatMap_cons,List.flatMap_nil,List.append_nil]
theorem Zxg(t:Nd)(v:Int):useK t v t.kids.length=useN t v:=by unfold useK;rw [List.take_length,Xff];rfl
theorem Znc{α β:Type}{f:α→β}{l:List α}{m:List β}(h:l.map f=m):l.length=m.length:=by rw [← h,List.length_map]
theorem Zyg:∀ (t:Nd) (v:Value) (D:Nat→Prop) (w:World) (lev:Int),Kd w D t.kids v→count t≤1000000→0≤lev→lev+count t≤2000000→Ret PP Wce #[ndV t v,.int .i64 lev] w fun r w'=>(∃ us:List ((Nd×Int)×Option Addr×Nat×Nat),us.map Prod.fst=useN t lev∧RetF Vwc w' us r)∧G w w':=by
 refine Nd.ind fun t ih v D w lev hk hc h0 hlc=>?_;obtain ⟨p,c,rfl,hcap,hks⟩:=hk;have g:=G.refl w;have hlen:=Wz t;refine WK 49 [0,1] Vyd ?_;refine BM fun b2 _ _ _ g E=>?_;refine AU ?_;have hnd1:=E.1;refine Xo (fun (x:Nat×Option Addr×Nat×List ((Nd×Int)×Option Addr×Nat×Nat)) u1=>match x with|⟨i,sa,ca,us⟩=>(i≤t.kids.length∧us.map Prod.fst=useK t lev i∧OwF Vwc Vhb 10 w.heap.size u1 us (.slice sa us.length ca))∧G w u1) _ [(1,True,_),(2,True,_),(4,True,_)] (fun (x:Nat×Option Addr×Nat×List ((Nd×Int)×Option Addr×Nat×Nat))=>match x with|⟨i,sa,ca,us⟩=>[(5,True,.slice sa us.length ca),(6,True,.int .i64 i)]) (fun (x:Nat×Option Addr×Nat×List ((Nd×Int)×Option Addr×Nat×Nat))=>match x with|⟨i,sa,ca,us⟩=>t.kids.length-i) ((0,none,0,[])) ⟨⟨Nat.zero_le _,rfl,Vvc _⟩,g⟩ (Zs (blkE E.g0) (Zz _)) (Za O (Za O (Za O (Za O (Za O (Zo _)))))) ?_;clear E;rintro ⟨i,sa,ca,us⟩ u1 ⟨hI1,gl1⟩ ⟨B2,_⟩;replace B2:Blk _ _ _ _:=B2;have g:=gl1;obtain ⟨hi,hm,hO⟩:=hI1;have hml:=Znc hm;have E:=Jo (L:=[(b2,_,_)]) hnd1 ⟨B2,trivial⟩ rfl;refine Zi (Zi (Zk (Zp O (Yf Zg O (Yp Zf O (E.g0.at_ O) (Xha Zc O (Xna O O (Ze (kq (Wn O (fun h1=>?_) (fun h1=>?_)))))))))));replace h1:i<t.kids.length:=by simp only [decide_eq_true_eq] at h1;omega
 obtain ⟨b,o,rfl,hD,xs,hR,hX⟩:=hks (by omega);obtain ⟨p',c',hcell,hkid⟩:=Zgb hR hX h1;have hck:=Zfa h1;have hcl:=Zwg t lev i;have hus:=Vuf (v:=lev) h1;have hul:=Uac t.kids[i] (upL t.kids[i] lev);refine Yb (kq (Zi (Yo (Zi (Zk (Yf Zg O (Yp Zf O (E.g0.at_ O) (Zp O (Qpa Zc O O (by omega) (Ve Zh O O (hcell.grow g) (AN fun _ _ ga _ g E=>?_)))))))))));have hO:=Ui hO;refine AS fun _ ga Ca g E=>?_;have hO:=hO.keep ga Ca rfl;refine Ze (kq (Zi (Zi (Zk (Yf Xl O (Yp Yh O (E.g0.at_ O) (Zya O O (Zp O (Zj O O O (fun _=>Zn Qh (Zd O)) (Yk O O O (Zw Yh (Zm O id) (fun _=>E.g0.at_ O)) (Zj O O O (fun _=>Zpa (Zm O id) Xg) (Zq O (fun _=>Yd (Zd O) (Zm O id)) (Ze (kq (Wn O (fun h2=>?_) (fun h2=>?_))))))))))))))));replace h2:(useB t.kids[i])=true:=h2;have eu:useE lev t.kids[i]=[(t.kids[i],lev)]++useN t.kids[i] (upL t.kids[i] lev):=by unfold useE;rw [h2];rfl
 refine Zk (Zp O (Ve Zh O O E.g0.row (Zp O (Jv Vx Vsa (pqc O (pqc O pq0)) O O (CN fun _ _ ga _ g E=>?_)))));have hO:=Ui hO;have hOo:=hO;refine Xwa O Xy Vx O O Zwa (Zd O) hO (Zd O) (Qma (x:=((t.kids[i],lev),p',t.kids[i].kids.length,c')) E.g0 O) (Zoa Jtb _) (by first|omega|(simp;omega)) O (by have:=g.size;omega) ?_;intro a33 c33 w33 hO hg33;replace E:=E.sel [false,true,true];replace E:=E.keepN hOo.1 hg33 rfl;have g:=Qc g hg33 (fun k hk=>hOo.ge k hk);refine IF (fun h3=>?_) fun h3=>?_;have e3:upL t.kids[i] lev=lev+1:=by unfold upL;rw [show decide (t.kids[i].kind=38)=true from h3];rfl
 rw [e3] at eu hul;refine AU ?_;refine CL (ih _ (List.getElem_mem h1) _ _ _ (lev+1) (hkid.grow g) (by omega) (by omega) (by omega)) ?_;rintro v41 w41 ⟨⟨us2,hm2,hr41⟩,g41⟩;refine ⟨fun _=>g41,?_⟩;have hl2:=Znc hm2;have g:=g.trans g41;replace E:=E.grow g41;have hO:=hO.grow (g41);have hOo:=hO;refine Xwa O Xy Vx O O Zwa (Zd O) hO (Zd O) hr41 (Zoa Jtb _) (by first|omega|(simp;omega)) O (by have:=g.size;omega) ?_;intro a42 c42 w42 hO hg42;replace E:=E.keepN hOo.1 hg42 rfl;have g:=Qc g hg42 (fun k hk=>hOo.ge k hk);refine AU ?_;refine SK [5,6,1,2,4] ?_;refine Ze (fun a ha=>?_);exact ⟨(i+1,a42,c42,us++[((t.kids[i],lev),p',t.kids[i].kids.length,c')]++us2),ha,⟨⟨h1,by simp [hm,hm2,hus,eu],hO⟩,g⟩,(Zs (blkE E.g1) (Zz _)),by show t.kids.length-(i+1)<t.kids.length-i;omega⟩;have e3:upL t.kids[i] lev=lev:=by unfold upL;rw [show decide (t.kids[i].kind=38)=false from h3];rfl
 rw [e3] at eu hul;refine AU ?_;refine CL (ih _ (List.getElem_mem h1) _ _ _ lev (hkid.grow g) (by omega) (by omega) (by omega)) ?_;rintro v46 w46 ⟨⟨us2,hm2,hr46⟩,g46⟩;refine ⟨fun _=>g46,?_⟩;have hl2:=Znc hm2;have g:=g.trans g46;replace E:=E.grow g46;have hO:=hO.grow (g46);have hOo:=hO;refine Xwa O Xy Vx O O Zwa (Zd O) hO (Zd O) hr46 (Zoa Jtb _) (by first|omega|(simp;omega)) O (by have:=g.size;omega) ?_;intro a47 c47 w47 hO hg47;replace E:=E.keepN hOo.1 hg47 rfl;have g:=Qc g hg47 (fun k hk=>hOo.ge k hk);refine AU ?_;refine SK [5,6,1,2,4] ?_;refine Ze (fun a ha=>?_);exact ⟨(i+1,a47,c47,us++[((t.kids[i],lev),p',t.kids[i].kids.length,c')]++us2),ha,⟨⟨h1,by simp [hm,hm2,hus,eu],hO⟩,g⟩,(Zs (blkE E.g1) (Zz _)),by show t.kids.length-(i+1)<t.kids.length-i;omega⟩;replace h2:(useB t.kids[i])=false:=h2;have eu:useE lev t.kids[i]=useN t.kids[i] (upL t.kids[i] lev):=by unfold useE;rw [h2];rfl
 refine IF (fun h4=>?_) fun h4=>?_;have e3:upL t.kids[i] lev=lev+1:=by unfold upL;rw [show decide (t.kids[i].kind=38)=true from h4];rfl
 rw [e3] at eu hul;refine AU ?_;refine CL (ih _ (List.getElem_mem h1) _ _ _ (lev+1) (hkid.grow g) (by omega) (by omega) (by omega)) ?_;rintro v41 w41 ⟨⟨us2,hm2,hr41⟩,g41⟩;refine ⟨fun _=>g41,?_⟩;have hl2:=Znc hm2;have g:=g.trans g41;replace E:=E.grow g41;have hO:=hO.grow (g41);have hOo:=hO;refine Xwa O Xy Vx O O Zwa (Zd O) hO (Zd O) hr41 (Zoa Jtb _) (by first|omega|(simp;omega)) O (by have:=g.size;omega) ?_;intro a42 c42 w42 hO hg42;replace E:=E.keepN hOo.1 hg42 rfl;have g:=Qc g hg42 (fun k hk=>hOo.ge k hk);refine AU ?_;refine SK [5,6,1,2,4] ?_;refine Ze (fun a ha=>?_);exact ⟨(i+1,a42,c42,us++us2),ha,⟨⟨h1,by simp [hm,hm2,hus,eu],hO⟩,g⟩,(Zs (blkE E.g1) (Zz _)),by show t.kids.length-(i+1)<t.kids.length-i;omega⟩;have e3:upL t.kids[i] lev=lev:=by unfold upL;rw [show decide (t.kids[i].kind=38)=false from h4];rfl
 rw [e3] at eu hul;refine AU ?_;refine CL (ih _ (List.getElem_mem h1) _ _ _ lev (hkid.grow g) (by omega) (by omega) (by omega)) ?_;rintro v46 w46 ⟨⟨us2,hm2,hr46⟩,g46⟩;refine ⟨fun _=>g46,?_⟩;have hl2:=Znc hm2;have g:=g.trans g46;replace E:=E.grow g46;have hO:=hO.grow (g46);have hOo:=hO;refine Xwa O Xy Vx O O Zwa (Zd O) hO (Zd O) hr46 (Zoa Jtb _) (by first|omega|(simp;omega)) O (by have:=g.size;omega) ?_;intro a47 c47 w47 hO hg47;replace E:=E.keepN hOo.1 hg47 rfl;have g:=Qc g hg47 (fun k hk=>hOo.ge k hk);refine AU ?_;refine SK [5,6,1,2,4] ?_;refine Ze (fun a ha=>?_);exact ⟨(i+1,a47,c47,us++us2),ha,⟨⟨h1,by simp [hm,hm2,hus,eu],hO⟩,g⟩,(Zs (blkE E.g1) (Zz _)),by show t.kids.length-(i+1)<t.kids.length-i;omega⟩;replace h1:i=t.kids.length:=by simp only [decide_eq_false_iff_not] at h1;omega
 subst h1;rw [Zxg] at hm;refine RTN ?_;exact ⟨⟨us,hm,hO.ret⟩,g⟩
theorem Vwe{P:Program}{k:Nat}{f:Field}{fs:List Field}{l:List Nat}(h:Qbb P k (f::fs)=some (0::l)):f.offset=k∧f.name≠ "_" ∧Vpa P f.type=some 0∧Qbb P (k+1) fs=some l:=by
 unfold Qbb at h;split at h;rename_i hc;simp only [Bool.and_eq_true,bne_iff_ne,ne_eq] at hc;split at h;rename_i a l' ha hl;injection h with h;injection h with h1 h2;subst h1 h2;exact ⟨Nat.eq_of_beq_eq_true hc.1,hc.2,ha,hl⟩;cases h;cases h
theorem Jfd{P:Program}{t:TypeId}(h:Vpa P t=some 0)(w:World)(em:Bool)(q:IntKind)(a:Int):(Instr.checkKey em 9999 t (.int q a)).run P w = .ok () w:=by
 unfold Vpa at h;split at h <;> try (cases h;done)
 rename_i q' hq;show (Instr.checkKey em (9998+1) t (.int q a)).run P w=_;rw [Instr.checkKey];simp only [Sem.run_bind,run_underlying hq,Result.andThen_ok,Sem.run_pure]
theorem Vvf{P:Program}{k:TypeId}(ht:Xga P k=some [0,0])(w:World)(em:Bool)(a:Int×Int):(Instr.checkKey em 10000 k (capV a)).run P w = .ok () w:=by
 unfold Xga at ht;split at ht;rename_i fs hfs;split at ht;rename_i hk;show (Instr.checkKey em (9999+1) k (capV a)).run P w=_;rw [Instr.checkKey];simp only [Sem.run_bind,run_underlying hfs,Result.andThen_ok,capV];rw [← Array.forIn_toList]
 match hl:fs.toList with
 | []=>rw [hl] at ht;cases ht
 | f0::l0 =>
  rw [hl] at ht;obtain ⟨o0,n0,k0,ht⟩:=Vwe ht
  match l0,ht with
  | [],ht=>cases ht
  | f1::l1,ht =>
   obtain ⟨o1,n1,k1,ht⟩:=Vwe ht
   match l1,ht with
   | [],ht =>
    have p0:=Jsa (Woc k0) (cs:=#[.int .i64 a.1,.int .i64 a.2]) (o:=f0.offset) (v:=.int .i64 a.1) (by rw [o0];rfl) w;have p1:=Jsa (Woc k1) (cs:=#[.int .i64 a.1,.int .i64 a.2]) (o:=f1.offset) (v:=.int .i64 a.2) (by rw [o1];rfl) w;simp only [List.forIn_cons,List.forIn_nil,Sem.run_bind,Sem.run_ite,if_pos n0,if_pos n1,p0,p1,Jfd k0,Jfd k1,Result.andThen_ok,Sem.run_pure]
   | f2::l2,ht =>
    unfold Qbb at ht;split at ht;split at ht <;> cases ht
    cases ht
 cases ht;cases ht
theorem Xif{P:Program}{k:TypeId}(ht:Xga P k=some [0,0]):KeyT P k capV:=by
 have h:=ht;unfold Xga at h;split at h;rename_i fs hfs;exact Jsf hfs ht (Vvf ht);cases h
section
variable {P:Program} {Z:List PanicEntry→Act→World→Prop} {ops:List Oper} {cl:List Nat} {lv:List Bool} {W0:World} {n:Nat} {K:Act→World→Prop} {k:Nat} {rest:List Oper} {σ:List Ent} {w:World} {d:Nat} {ty:TypeId} {pos:String} {after:Array Edge}
theorem Jgd{c:Prop}{wb:World}{t kt e b:Nat}{x y:Operand}{α:Type}[BEq α][LawfulBEq α]{f:α→Value}{l:List α}{a:α}(T:KeyT P kt f)(ht:P.underlying t=some (.map kt e))(hz:zeroOf P e=some (.bool false))(h:MapB wb b (l.map f))(hx:Ev n σ c x (.map (some b)))(hy:Ev n σ c y (f a)) :
 Rd P n σ c wb (.lookup t x y false) ty (.bool (decide (a∈l))):=.mk fun d pos after gd act ha hc w1 hg=>by
 obtain ⟨i,hi,hz'⟩:=Uoa hz;have r:=Jxe T ht hi hz' (h.grow hg) a;simp [execOp,hx act ha hc,hy act ha hc,r]
theorem Vxe{t kt e b:Nat}{x y z:Operand}{α:Type}[BEq α][LawfulBEq α]{f:α→Value}{l:List α}{a:α}(hb:Nat.beq (clOf cl k) 2=true)(T:KeyT P kt f)(ht:P.underlying t=some (.map kt e))(hM:MapB w b (l.map f))(hx:Ev n σ True x (.map (some b)))(hy:Ev n σ True y (f a))(hz:Ev n σ True z (.bool true))
 (h:∀ w1,MapB w1 b ((bif decide (a∈l) then l else l++[a]).map f)→w.grownBy w1 (some b)→SR P Z ops cl lv W0 n K (k+1) rest σ w1) :
 SR P Z ops cl lv W0 n K k (⟨none,.mapUpdate t x y z,ty,pos,after,none⟩::rest) σ w:=by
 obtain ⟨w1,r1,r2,r3⟩:=Jye T ht hM a;refine Yjf hb (w':=w1) (fun d pos after g act ha _=>?_) (h w1 r2 r3);simp [execOp,hx act ha trivial,hy act ha trivial,hz act ha trivial,r1]
theorem Vye{t:Nat}(hb:(!Nat.beq (clOf cl k) 0 && !Nat.beq (clOf cl k) 3&&Nat.blt d n)=true)
  (h:∀ b w1,b=w.heap.size→G w w1→w1.heap.size=w.heap.size+1→MapB w1 b []→SR P Z ops cl lv W0 n K (k+1) rest ((d,True,.map (some b)) :: σ) w1) :
  SR P Z ops cl lv W0 n K k (⟨some d,.makeMap t none,ty,pos,after,none⟩::rest) σ w :=
 Wjb hb (w':=w.alloc (.map #[] 0)) (fun d pos after g a ha _=>by simp [execOp,Instr.makeMap]) (fun _=>Yvf w _) (h _ _ rfl (Yvf w _) (by simp) (Jqf w))
theorem Ydb{α:Type}{f:α→List Value}{t e z by_ base:Nat}{x y:Operand}{s v zv:Value}{ks ls:List α}(hb:(Nat.beq (clOf cl k) 2&&Nat.blt d n)=true)(ht:tyElem P t=some (e,z,by_))(hzv:zeroOf P e=some zv)
 (hzs:zv.cells.size=z) (hz:Nat.blt 0 z=true) (hf:∀ a,(f a).length=z) (hx:Ev n σ True x s) (hO:OwF f e z base w ks s) (hy:Ev n σ True y v) (hR:RetF f w ls v) (hne:ls≠[]) (h1:onesB (ls.flatMap f)=true)
 (hlen:ks.length+ls.length≤10000000) (hby:Nat.ble by_ 1000=true) (hbase:base≤w.heap.size)
 (h:∀ a' c' w',OwF f e z base w' (ks++ls) (.slice a' (ks++ls).length c')→w.grownBy w' s.ownBlock→(∀ j,(Value.slice a' (ks++ls).length c').ownBlock=some j→s.ownBlock=some j∨w.heap.size≤j)→SR P Z ops cl lv W0 n K (k+1) rest ((d,True,.slice a' (ks++ls).length c') :: σ) w') :
 SR P Z ops cl lv W0 n K k (⟨some d,.call { callee:=.builtin .append,args:=#[x,y],argTypes:=#[t,t] },ty,pos,after,none⟩::rest) σ w:=by
 obtain ⟨p,c,rfl,_,h2⟩:=hR.1;obtain ⟨b,o,rfl,hr⟩:=h2 (List.length_pos_iff.2 hne);have hby:=Nat.le_of_ble_eq_true hby;refine Jg hb ht hzv hzs (by rw [Nat.blt_eq] at hz;exact hz) hx hO.1 hy (Qla hf ls) hr h1 (by simp only [maxLen];omega) ?_ hbase fun a' c' w' ho hg hat=>?_
 calc (ks.length+ls.length)*by_≤10000000*1000:=Nat.mul_le_mul hlen hby
  _≤140737488355328:=by decide
 have h':=h a' c' w';rw [List.length_append] at h';exact h' ⟨by rw [List.flatMap_append,List.length_append];exact ho,fun e=>absurd (List.append_eq_nil_iff.1 e).2 hne⟩ hg (fun j hj=>hat.imp (fun q=>q.symm.trans hj) fun q=>by rw [hj] at q;injection q with q;omega)
end
theorem Zzg:PP.underlying Vga=some (.map Zab Yof):=by kernel_rfl
theorem Jka{w:World}{b b':Nat}{e:TypeId}{l ks:List Value}(h:Blk w b e l)(h':MapB w b' ks):b≠b':=fun q=>by
 subst q;obtain ⟨es,c,hb,_⟩:=h';unfold Blk at h;rw [hb] at h;injection h with h;cases h
theorem Ykd{w:World}{base z m b:Nat}{e:TypeId}{v:Value}{xs ks:List Value}(h:w.ownsRow base e z v m xs)(h':MapB w b ks):v.ownBlock≠some b:=fun hk=>by
 obtain ⟨es,c,hb,_⟩:=h';rcases h.2 with ⟨h1,_⟩|⟨g,cap,cur,h1,h2,h3,_⟩;rw [h1] at hk;cases hk;rw [h1] at hk;have:g=b:=by injection hk
 subst this;rw [hb] at h3;injection h3 with h3;cases h3
theorem Js{a b:Nat}(h:a≠b):some a≠some b:=fun e=>h (Option.some.inj e)
def capsV(pre:List (Nd×Int)):List (Int×Int):=pre.foldl capW []
theorem Ugg{pre:List (Nd×Int)}{x:Nd×Int}(h:((useB x.1&&decide (0<(capC x).1)) && !decide (capC x∈capsV pre))=true):capsV (pre++[x])=capsV pre++[capC x]∧decide (capC x∈capsV pre)=false:=by
 simp only [Bool.and_eq_true,Bool.not_eq_true'] at h;refine ⟨?_,h.2⟩;show (pre++[x]).foldl capW []=_;rw [List.foldl_append];show capW (capsV pre) x=_;unfold capW capS;rw [h.1.1,h.1.2,h.2];rfl
theorem Uhg{pre:List (Nd×Int)}{x:Nd×Int}(h:((useB x.1&&decide (0<(capC x).1)) && !decide (capC x∈capsV pre))=false):capsV (pre++[x])=capsV pre:=by
 show (pre++[x]).foldl capW []=_;rw [List.foldl_append];show capW (capsV pre) x=_;unfold capW capS;rw [Bool.and_assoc] at h;cases h1:useB x.1;rfl;rw [h1,Bool.true_and] at h;rw [h];rfl
theorem Jhd:∀ pre:List (Nd×Int),(capsV pre).length≤pre.length:=by
 have key:∀ (pre:List (Nd×Int)) (o:List (Int×Int)),(pre.foldl capW o).length≤o.length+pre.length:=by
  intro pre
  induction pre with
  | nil=>intro o;exact Nat.le_refl _
  | cons x pre ih =>
   intro o;rw [List.foldl_cons,List.length_cons];have:=ih (capW o x)
   have h2:(capW o x).length≤o.length+1:=by
    unfold capW capS;cases useB x.1;rw [cond_false];omega;rw [cond_true];cases (decide (0<(capC x).1) && !decide (capC x∈o));rw [cond_false];omega;rw [cond_true,List.length_append,List.length_singleton];omega
   omega
 intro pre;have:=key pre [];show (pre.foldl capW []).length≤_;simpa using this
structure JC (n0 bo bf bm:Nat) (pre:List (Nd×Int)) (V:Nat→Prop) (A:World):Prop where
  F:Blk A bf Vga [.map (some bm)]
  M:MapB A bm ((capsV pre).map capV)
  ex:∃ s,Blk A bo Vjc [s]∧OwF capCells Zab 2 n0 A (capsV pre) s∧∀ k,V k↔k=bo∨k=bf∨k=bm∨s.ownBlock=some k
section
variable {D:Nat→Prop} {n0 bo bf bm:Nat}
set_option maxHeartbeats 1000000 in
theorem Yag(pre:List (Nd×Int))(x:Nd×Int)(V:Nat→Prop)(w:World)(v:Value)(hj:JC n0 bo bf bm pre V w)(hpl:pre.length<1000000)(hn:n0≤w.heap.size) :
 Ret PP Uga #[ndV x.1 v,.int .i64 x.2,.pointer (some ⟨bf,0,none⟩),.pointer (some ⟨bo,0,none⟩)] w fun _ A'=>∃ V',JC n0 bo bf bm (pre++[x]) V' A'∧(∀ k,V' k→V k∨w.heap.size≤k)∧GV V w A':=by
 obtain ⟨hF,hM,s,hB,hO,hV⟩:=hj;obtain ⟨sa,sc,rfl⟩:=hO.slice;have hll:=Jhd pre;have hbl:=hB.lt;have hfl:=hF.lt;have hml:=hM.lt;have hV0:=hV;have g:=GV.refl V w;refine Zca (m:=39) Yyb O O [(0,True,_),(1,True,_),(2,True,_),(3,True,_)] (Za O (Za O (Za O (Za O (Zo _))))) ?_;refine Zi (Zk (Wya O (Zd O) O ?_));intro b4 w4 N4;have l4:=Yea N4 g.size;have hne4:=hO.nnew N4;have g:=g.trans (GV.of_g (N4.g));have hB:=hB.grow (N4.g);have hF:=hF.grow (N4.g);have hM:=hM.grow (N4.g);have hO:=hO.grow (N4.g);have E:=(Xia _).new N4;refine Ze (kq (Zi (Zk (Yf Qba O (Yp Yh O (E.g0.at_ O) (Zp O (Zq O (fun _=>Yad (Zd O) (Zd O)) (Yf Qg O (Yp Yh O (E.g0.at_ O) (Jv Vj Qz (pqc O (pqc O pq0)) O O (Jm O Vj O ?_)))))))))));intro b6 w6 N6;have l6:=Yea N6 g.size;have hne6:=hO.nnew N6;have g:=g.trans (GV.of_g (N6.g));have hB:=hB.grow (N6.g);have hF:=hF.grow (N6.g);have hM:=hM.grow (N6.g);have hO:=hO.grow (N6.g);replace E:=E.new N6;refine Ygb Zbb O O O E.g0 ?_;intro wS1 hgS1 _ BS;replace E:=E.s0 hgS1 BS;have g:=Ycb g hgS1 (by omega);have hB:=hB.keep hgS1 (by intro e;injection e with e;omega);have hF:=hF.keep hgS1 (by intro e;injection e with e;omega);have hM:=hM.keep hgS1 (by intro e;injection e with e;omega);have hO:=hO.keepB hgS1 hne6;refine Ze (kq (Zi (Wf [3,0,3,3,3,0,3,3,3,3,0,3,3,3,0,0,0,3,3] (Yf Xl O (Yp Yh O (E.g1.at_ O) (Zya O O (Zp O (Zj O O O (fun _=>Zn Qh (Zd O)) (Yk O O O (Zw Yh (Zm O id) (fun _=>E.g1.at_ O)) (Zj O O O (fun _=>Zpa (Zm O id) Xg) (Zq O (fun _=>Yd (Zd O) (Zm O id)) (Zp O (Zj O O O (fun _=>Zn Yna (Zd O)) (Yk O O O (Zw Yh (Zm O id) (fun _=>E.g0.at_ O)) (Zj O O O (fun _=>Qcd (Zm O id) Xg) (Zq O (fun _=>Yd (Zd O) (Zm O id)) (?_)))))))))))))))))
 refine Zp O (Yk O O O (Zw Yda (Zd O) (fun _=>hF.at_ O)) (Yk O O O (Zy Zva (Zd O) O (fun _=>E.g0.row)) (Yk O O O (Jgd (f:=capV) (a:=capC x) (Xif Yma) Zzg Zse hM (Zm O id) (Zm O id)) (Zj O O O (fun _=>Xmc (Zm O id)) (Zq O (fun _=>Yd (Zd O) (Zm O id)) (Ze (kq (Wn O (fun h1=>?_) (fun h1=>?_)))))))));replace h1:((useB x.1&&decide (0<(capC x).1)) && !decide (capC x∈capsV pre))=true:=h1;obtain ⟨e1,e2⟩:=Ugg h1;refine Zi (Zk (Yp Yda O (hF.at_ O) (Ve Zva O O E.g0.row (Vxe (f:=capV) (a:=capC x) O (Xif Yma) Zzg hM (Zd O) (Zd O) Xg ?_))));intro w33 hM2 hg33;rw [e2,cond_false,← e1] at hM2;have hB:=hB.keep hg33 (Js (Jka hB hM));have hF:=hF.keep hg33 (Js (Jka hF hM));have hO:=hO.keepM hg33 hM;replace E:=E.keep hg33 (List.forall_mem_cons.2 ⟨fun e=>by injection e with e;omega,List.forall_mem_cons.2 ⟨fun e=>by injection e with e;omega,List.forall_mem_nil _⟩⟩);have g:=Xlc g hg33 ((hV bm).2 (.inr (.inr (.inl rfl))));replace hM:=hM2;refine AU ?_;refine Wp _ O Wo Vj (pqc O pq0) O O ?_;intro b37 w37 N37;have l37:=Yea N37 g.size;have hne37:=hO.nnew N37;have g:=g.trans (GV.of_g (N37.g));have hB:=hB.grow (N37.g);have hF:=hF.grow (N37.g);have hM:=hM.grow (N37.g);have hO:=hO.grow (N37.g);replace E:=E.new N37;refine Ydb O Wo Vj O O Uz (Zd O) hO (Zd O) (Qma (x:=capC x) E.g0 O) (by simp) (Zoa Voe _) (by simp;omega) O (by have:=g.size;omega) ?_;intro a38 c38 w38 hO2 hg38 hat38;rw [← e1] at hO2 hat38;have hB:=hB.keep hg38 (fun e=>Zna hO.1 hB rfl e.symm);have hF:=hF.keep hg38 (fun e=>Zna hO.1 hF rfl e.symm);have hM:=hM.keep hg38 (fun e=>Ykd hO.1 hM e.symm);have hwg:=g.size;have g:=Wvd g hg38 (fun k hk=>(hV k).2 (.inr (.inr (.inr hk))));refine Yq O Zwb (Zd O) (Zd O) O hB O O ?_;intro w39 hg39 hz39 hB39
 rw [← e1] at hB39;have hF:=hF.keep hg39 (Js (Wlb hF hB rfl));have hM:=hM.keep hg39 (Js (Jka hB hM).symm);have hO2:=hO2.keep hg39 hB rfl;have g:=Xlc g hg39 ((hV bo).2 (.inl rfl));refine Ze (Qn O ?_);refine ⟨_,⟨hF,hM,_,hB39,hO2,fun k=>Iff.rfl⟩,fun k hk=>?_,g⟩;rcases hk with q|q|q|q;exact .inl ((hV k).2 (.inl q));exact .inl ((hV k).2 (.inr (.inl q)));exact .inl ((hV k).2 (.inr (.inr (.inl q))));exact (hat38 k q).imp (fun q=>(hV k).2 (.inr (.inr (.inr q)))) (fun q=>by omega);replace h1:((useB x.1&&decide (0<(capC x).1)) && !decide (capC x∈capsV pre))=false:=h1;have e1:=Uhg h1;refine Yb (Qn O ?_);exact ⟨V,⟨hF,by rw [e1];exact hM,_,hB,by rw [e1];exact hO,hV⟩,fun k hk=>.inl hk,g⟩
theorem Zjf:VisJ Uga #[.pointer (some ⟨bf,0,none⟩),.pointer (some ⟨bo,0,none⟩)] D n0 (fun _=>True) (fun pre V A=>JC n0 bo bf bm pre V A) where
 go:=Ubb
 g:=fun pre V A C ⟨hF,hM,s,hB,hO,hV⟩ g=>⟨hF.grow g,hM.grow g,s,hB.grow g,hO.grow g,hV⟩
 keep:=fun pre V A C b ⟨hF,hM,s,hB,hO,hV⟩ hg hb hn=>⟨hF.keep hg (Js fun e=>hb ((hV b).2 (.inr (.inl e.symm)))),hM.keep hg (Js fun e=>hb ((hV b).2 (.inr (.inr (.inl e.symm))))),s,
  hB.keep hg (Js fun e=>hb ((hV b).2 (.inl e.symm))),hO.keepB hg fun k hk e=>hb ((hV b).2 (.inr (.inr (.inr (e▸hk))))),hV⟩
 lt:=fun pre V A ⟨hF,hM,s,hB,hO,hV⟩ k hk=>by
  rcases (hV k).1 hk with e|e|e|e;exact e▸hB.lt;exact e▸hF.lt;exact e▸hM.lt;exact hO.lt k e
 st:=fun pre x V A p c _ hl hj hn hd hk=>Yag pre x V A _ hj hl hn
end
theorem Zoc(t:Nd)(v:Value)(D:Nat→Prop)(w:World)(hk:Kd w D t.kids v)(hcn:count t≤1000000) :
 Ret PP Zwc #[ndV t v] w fun r w'=>RetF capCells w' (capT t) r∧G w w':=by
 have hk0:Kd w (fun b=>D b∧b<w.heap.size) t.kids v:=hk.lt;have g:=G.refl w;refine WK 13 [0] Vxb ?_;refine BM fun _ _ _ _ g E=>?_;refine IF (fun h1=>?_) fun h1=>?_;have e1:capT t=[]:=by unfold capT;rw [show decide (t.kind=38)=false by simpa using h1];rfl
 refine RTN ?_;rw [e1];exact ⟨⟨Zhb _,fun _=>rfl⟩,g⟩;have e1:t.kind=38:=by simpa using h1
 refine AN fun b3 _ _ _ g E=>?_;refine Ze (kq (Zi (Zk (Vye O ?_))));intro b8 w8 hb8 hg8 hz8 hM;replace E:=E.grow hg8;have hgs:=g.size;have g:=g.trans hg8;refine AN fun b4 _ N4 _ g E=>?_;have hM:=hM.grow (N4.g);refine AS fun _ ga _ g E=>?_;have hM:=hM.keep ga (by intro e;injection e with e;have:=N4.at_;omega);refine Ze (kq (Zi (Zk (Ve Zh rfl rfl E.g2.row (Zq rfl (fun _=>Ybd (aq0) (aqc rfl (aqc rfl aq0))) (CL (Wyd (Zjf (D:=fun b=>D b∧b<w.heap.size) (n0:=w.heap.size) (bo:=b3) (bf:=b4) (bm:=b8)) (fun k hk=>hk.2) t v (fun k=>k=b3∨k=b4∨k=b8∨(Value.slice none 0 0).ownBlock=some k) _ g.size (fun k hk h=>by have:=hk.2;rcases h with e|e|e|e;omega;omega;omega;cases e) (hk0.grow g) ⟨E.g0,hM,_,E.g1,Vvc _,fun k=>Iff.rfl⟩ (fun x _=>trivial) hcn) ?_))))));rintro v11 w11 ⟨V2,⟨hF,hM,s,hB,hO,hV⟩,hs2,q11⟩;refine ⟨nw1,?_⟩;have g:=g_gb g q11 (fun k hk=>by rcases hk with e|e|e|e;omega;omega;omega;cases e);clear E;rw [show capsV (visN t 0)=capT t from Vre e1] at hO;refine RTN ?_;exact ⟨hO.ret,g⟩
structure Bd (S:CSt) (N:Nat):Prop where
  vl:S.vars.length≤N
  nl:S.next.length≤N+1
  nx:∀ k∈S.next,k≤N
  lv:S.level<S.next.length
  sc:S.scope≤N
  vs:∀ v∈S.vars,v.num≤N∧v.level≤N∧v.scope≤N
theorem Bd.mono{S:CSt}{N M:Nat}(h:Bd S N)(hm:N≤M):Bd S M :=
 ⟨Nat.le_trans h.vl hm,by have:=h.nl;omega,fun k hk=>Nat.le_trans (h.nx k hk) hm,h.lv,Nat.le_trans h.sc hm,fun v hv=>by have:=h.vs v hv;omega⟩
structure Stp (d:Nat) (S S':CSt):Prop where
  level:S'.level=S.level
  scope:S'.scope=S.scope
  result:S'.result=S.result
  er:S'.ee=0→S.ee=0
  bd:∀ N,Bd S N→Bd S' (N+d)
theorem Stp.refl(S:CSt):Stp 0 S S:=⟨rfl,rfl,rfl,id,fun N h=>h⟩
theorem Stp.trans{a b:Nat}{S T U:CSt}(h:Stp a S T)(k:Stp b T U):Stp (a+b) S U :=
 ⟨k.level.trans h.level,k.scope.trans h.scope,k.result.trans h.result,fun he=>h.er (k.er he),fun N hN=>by have:=k.bd _ (h.bd N hN);rwa [Nat.add_assoc] at this⟩
theorem Stp.mono{a b:Nat}{S T:CSt}(h:Stp a S T)(hb:a≤b):Stp b S T:=⟨h.level,h.scope,h.result,h.er,fun N hN=>(h.bd N hN).mono (by omega)⟩
theorem Stp.of{S T:CSt}(h1:T.vars=S.vars)(h2:T.scope=S.scope)(h3:T.level=S.level)(h4:T.next=S.next)(h5:T.result=S.result)(h6:T.ee=0→S.ee=0):Stp 0 S T :=
 ⟨h3,h2,h5,h6,fun N h=>⟨by rw [h1];exact h.vl,by rw [h4];exact h.nl,by rw [h4];exact h.nx,by rw [h3,h4];exact h.lv,by rw [h2];exact h.sc,by rw [h1];exact h.vs⟩⟩
theorem Vpb(a e:Int)(S:CSt):(failS a e S).vars=S.vars∧(failS a e S).scope=S.scope∧(failS a e S).level=S.level∧(failS a e S).next=S.next∧(failS a e S).result=S.result∧((failS a e S).ee=0→S.ee=0):=by
 unfold failS;cases h:decide (S.ee=0);exact ⟨rfl,rfl,rfl,rfl,rfl,id⟩;exact ⟨rfl,rfl,rfl,rfl,rfl,fun _=>of_decide_eq_true h⟩
theorem Uua(b:Bool)(a e:Int)(S:CSt):(failU b a e S).vars=S.vars∧(failU b a e S).scope=S.scope∧(failU b a e S).level=S.level∧(failU b a e S).next=S.next∧(failU b a e S).result=S.result∧((failU b a e S).ee=0→S.ee=0):=by
 unfold failU;cases b;exact Vpb a e S;exact ⟨rfl,rfl,rfl,rfl,rfl,id⟩
theorem Vwf(a e:Int)(S:CSt):Stp 0 S (failS a e S):=by obtain ⟨h1,h2,h3,h4,h5,h6⟩:=Vpb a e S;exact Stp.of h1 h2 h3 h4 h5 h6
theorem Zpc(b:Bool)(a e:Int)(S:CSt):Stp 0 S (failU b a e S):=by obtain ⟨h1,h2,h3,h4,h5,h6⟩:=Uua b a e S;exact Stp.of h1 h2 h3 h4 h5 h6
theorem Stp.fail{d:Nat}{S T:CSt}(h:Stp d S T)(a e:Int):Stp d S (failS a e T):=h.trans (Vwf a e T)
theorem Stp.failu{d:Nat}{S T:CSt}(h:Stp d S T)(b:Bool)(a e:Int):Stp d S (failU b a e T):=h.trans (Zpc b a e T)
theorem Stp.cond{d:Nat}{S T U:CSt}{b:Bool}(h:Stp d S T)(k:Stp d S U):Stp d S (bif b then T else U):=by cases b <;> assumption
theorem Vze(F n:Nd)(S:CSt):Stp 0 S (pointerS F n S):=((Stp.refl S).failu _ _ _).cond (Stp.refl S)
theorem Wab(F n:Nd)(S:CSt):Stp 0 S (localS F n S):=(Vze F n S).failu _ _ _
theorem Uig{l:List Nat}{i:Nat}{a x:Nat}(h:x∈l.set i a):x∈l∨x=a:=List.mem_or_eq_of_mem_set h
theorem Uae{S:CSt}{N:Nat}(h:Bd S N):declN S≤N:=by
 have hl:=h.lv;have:declN S=S.next[S.level]:=by rw [declN,List.getD_eq_getElem?_getD,List.getElem?_eq_getElem hl];rfl
 rw [this];exact h.nx _ (List.getElem_mem hl)
theorem Ubc(s:List UInt8)(y:Ty)(a:Int)(S:CSt):Stp 1 S (declS s y a S):=by
 have hq:=Uua (!dupV S s) a 6 S;refine ⟨hq.2.2.1,hq.2.1,hq.2.2.2.2.1,hq.2.2.2.2.2,fun N h=>?_⟩;have hd:=Uae h;refine ⟨?_,?_,?_,?_,?_,?_⟩;show (S.vars++[_]).length≤_;have:=h.vl;simp;omega;show (S.next.set _ _).length≤_;have:=h.nl;simp;omega;intro k hk;rcases Uig (show k∈S.next.set S.level (declN S+1) from hk) with h1|h1;have:=h.nx k h1;omega;omega;show (failU (!dupV S s) a 6 S).level<(S.next.set _ _).length;rw [hq.2.2.1];have:=h.lv;simp;omega;show (failU (!dupV S s) a 6 S).scope≤_;rw [hq.2.1];have:=h.sc;omega;intro v hv;have hv:v∈S.vars++[⟨s,y,declN S,S.level,S.scope⟩]:=hv;rcases List.mem_append.1 hv with h1|h1;have:=h.vs v h1;omega;obtain rfl:=List.mem_singleton.1 h1;have h2:=h.lv;have h3:=h.nl;have h4:=h.sc;exact ⟨by show declN S≤_;omega,by show S.level≤_;omega,by show S.scope≤_;omega⟩
theorem Vxf(sc:Nat)(l:List Vr):(dropV sc l).length≤l.length:=by
 unfold dropV;rw [List.length_reverse];have h:(l.reverse.dropWhile fun v=>decide (v.scope=sc)).length≤l.reverse.length:=(List.dropWhile_sublist _).length_le;rwa [List.length_reverse] at h
theorem Vyf{sc:Nat}{l:List Vr}{v:Vr}(h:v∈dropV sc l):v∈l:=by
 unfold dropV at h;exact List.mem_reverse.1 ((List.dropWhile_sublist _).subset (List.mem_reverse.1 h))
theorem Jid{d:Nat}{S T:CSt}(h:Stp d (openS S) T):Stp (1+d) S (shutS T):=by
 refine ⟨h.level,?_,h.result,h.er,fun N hN=>?_⟩;show T.scope-1=S.scope;rw [h.scope];rfl;have h1:Bd (openS S) (N+1):=⟨by have:=hN.vl;show S.vars.length≤_;omega,by have:=hN.nl;show S.next.length≤_;omega,fun k hk=>by have:=hN.nx k hk;omega,hN.lv,by have:=hN.sc;show S.scope+1≤_;omega,fun v hv=>by have:=hN.vs v hv;omega⟩;have h2:=h.bd _ h1;rw [show N+1+d=N+(1+d) by omega] at h2;refine ⟨Nat.le_trans (Vxf _ _) h2.vl,h2.nl,h2.nx,h2.lv,Nat.le_trans (Nat.sub_le _ _) h2.sc,fun v hv=>h2.vs v (Vyf hv)⟩
theorem Ybg{S:CSt}{N:Nat}(h:Bd S N):Bd (litS S) (N+1):=by
 have hl:=h.lv;have hn:=h.nl;refine ⟨by have:=h.vl;show S.vars.length≤_;omega,?_,?_,?_,by have:=h.sc;show S.scope≤_;omega,fun v hv=>by have:=h.vs v hv;omega⟩;show (S.next.take (S.level+1)++[0]).length≤_;simp;omega;intro k hk;rcases List.mem_append.1 (show k∈S.next.take (S.level+1)++[0] from hk) with h1|h1;have:=h.nx k (List.mem_of_mem_take h1);omega;simp at h1;omega;show S.level+1<(S.next.take (S.level+1)++[0]).length;simp;omega
theorem Ujg{d:Nat}{S T:CSt}(h:Stp d (litS S) T):Stp (1+d) S { T with level:=T.level-1,result:=S.result }:=by
 have hl:T.level=S.level+1:=h.level;refine ⟨by show T.level-1=_;omega,h.scope,rfl,h.er,fun N hN=>?_⟩;have h2:=h.bd _ (Ybg hN);rw [show N+1+d=N+(1+d) by omega] at h2;exact ⟨h2.vl,h2.nl,h2.nx,by have:=h2.lv;show T.level-1<T.next.length;omega,h2.sc,h2.vs⟩
/-! children's counts -/
def cN(t:Nd)(i:Nat):Nat:=(t.kids.map count).getD i 0
def sC(t:Nd):Nat→Nat
 | 0=>0
 | i+1=>sC t i+cN t i
theorem sC_eq(t:Nd)(i:Nat):sC t i=((t.kids.map count).take i).sum:=by
 induction i with
 | zero=>rfl
 | succ i ih =>
  rw [sC,ih,List.take_add_one,cN,List.getD_eq_getElem?_getD,List.sum_append];cases (t.kids.map count)[i]? <;> simp
theorem Vza(t:Nd)(i:Nat):sC t i+1≤count t:=by
 rw [sC_eq,Uw];have:=Jdc (t.kids.map count) i;omega
theorem Ucc{t:Nd}{i:Nat}(h:i<t.kids.length):cN t i=count (Zb t i):=by
 rw [cN,Wc h];simp [List.getD_eq_getElem?_getD,List.getElem?_eq_getElem h]
structure CkS (c:Ck) (d:Nat):Prop where
  ex:∀ S,Stp d S (c.ex S).2
  mem:∀ S,Stp d S (c.mem S).2
  cal:∀ S,Stp d S (c.cal S).2
  st:∀ S,Stp d S (c.st S).2
  blk:∀ S,Stp d S (c.blk S).2
  ifs:∀ S,Stp d S (c.ifs S).2
  sts:∀ S,Stp d S (c.sts S).2
  cas:∀ f S,Stp d S (c.cas f S).2
theorem Jyg:CkS ck0 0:=⟨fun S=>Stp.refl S,fun S=>Stp.refl S,fun S=>Stp.refl S,fun S=>Stp.refl S,fun S=>Stp.refl S,fun S=>Stp.refl S,fun S=>Stp.refl S,fun _ S=>Stp.refl S⟩
section
variable {F t:Nd} {x:Nat→Ck}
theorem Xjf(X:∀ i,CkS (x i) (cN t i))(S:CSt):Stp (sC t 1) S (memR F t x S).2:=by
 have h:Stp (sC t 1) S ((x 0).ex S).2:=((X 0).ex S).mono (by simp [sC]);unfold memR;dsimp only;cases decide (((x 0).ex S).1.ty.kind=4);exact h.fail _ _;simp only [cond_true];split;exact h;exact h.fail _ _
theorem Yte(X:∀ i,CkS (x i) (cN t i))(ps:List Ty){S T:CSt}(h:Stp (sC t 1) S T):∀ i,Stp (sC t (i+1)) S (argA t x ps T i).2
 | 0=>h
 | i+1=>((Yte X ps h i).trans ((X (i+1)).ex _)).failu _ _ _
theorem Ycg(X:∀ i,CkS (x i) (cN t i))(S:CSt):Stp (sC t (t.kids.length-1+1)) S (callR t x S).2 :=
 Yte X _ ((((X 0).cal S).mono (by simp [sC])).failu _ _ _) _
theorem Ydg(X:∀ i,CkS (x i) (cN t i))(S:CSt):Stp (1+sC t 1) S (litR t x S).2:=Ujg (((X 0).blk _).mono (by simp [sC]))
theorem Ymd(X:∀ i,CkS (x i) (cN t i))(S:CSt):Stp (sC t 1) S ((x 0).ex S).2:=((X 0).ex S).mono (by simp [sC])
theorem Zvh(X:∀ i,CkS (x i) (cN t i))(S:CSt):Stp (sC t 2) S (opR t x S).2:=by
 have h:=Ymd X S;have h1:∀ T,Stp (sC t 1) S T→Stp (sC t 2) S ((x 1).ex T).2:=fun T hT=>hT.trans ((X 1).ex T);have hm:∀ {T},Stp (sC t 1) S T→Stp (sC t 2) S T:=fun hT=>hT.mono (Nat.le_add_right _ _);unfold opR;dsimp only [wantS];repeat' (first|(generalize decide (t.kind=_)=q;cases q <;> simp only [cond_true,cond_false]))
 all_goals first
  | exact (h1 _ (h.failu _ _ _)).failu _ _ _
  | exact (h1 _ h).failu _ _ _
  | exact hm (h.failu _ _ _)
  | exact hm h
theorem Xkf(X:∀ i,CkS (x i) (cN t i))(S:CSt):Stp (count t) S (exR F t x S).2:=by
 have hc:∀ i,sC t i+1≤count t:=Vza t;have h0:∀ {T},Stp 0 S T→Stp (count t) S T:=fun h=>h.mono (Nat.zero_le _);unfold exR;cases decide (t.kind=24);case true=>exact h0 (Stp.refl S)
 cases decide (t.kind=25);case true=>exact h0 (Stp.refl S)
 cases decide (t.kind=26);case true=>exact h0 (Stp.refl S)
 cases decide (t.kind=38);case true=>exact (Ydg X S).mono (by have:=hc 1;omega)
 cases decide (t.kind=30);case true=>exact (Ycg X S).mono (by have:=hc (t.kids.length-1+1);omega)
 cases decide (t.kind=27);case true=>exact h0 (((Stp.refl S).failu _ _ _).cond ((Stp.refl S).fail _ _))
 cases decide (t.kind=28);case true=>exact ((Xjf X S).failu _ _ _).mono (by have:=hc 1;omega)
 cases decide (t.kind=34);case true=>exact h0 ((Stp.refl S).failu _ _ _)
 exact (Zvh X S).mono (by have:=hc 2;omega)
theorem Ukg(X:∀ i,CkS (x i) (cN t i))(S:CSt):Stp (count t) S (calR F t x S).2:=by
 have hc:=Vza t 1;unfold calR;dsimp only;cases decide (t.kind=28)&&((x 0).rcv S).2;simp only [cond_false];cases decide (t.kind=27)&&((lookR F S t).2&&decide ((lookR F S t).1.ref=3));exact (Xkf X S).failu _ _ _;exact (Stp.refl S).mono (Nat.zero_le _);refine Stp.failu ?_ _ _ _;unfold rcvX;cases decide ((Zb t 0).kind=28);exact (Stp.refl S).mono (Nat.zero_le _);exact ((X 0).mem S).mono (by simp [sC] at hc;omega)
theorem Yue(X:∀ i,CkS (x i) (cN t i))(S:CSt):∀ i,Stp (sC t i) S (stA x S i).2
 | 0=>Stp.refl S
 | i+1=>(Yue X S i).trans ((X i).st _)
theorem Xlf(X:∀ i,CkS (x i) (cN t i))(S:CSt):Stp (sC t t.kids.length) S (stsR t x S).2:=Yue X S _
theorem Xmf(X:∀ i,CkS (x i) (cN t i))(S:CSt):Stp (count t) S (blkR t x S).2:=(Jid (Xlf X (openS S))).mono (by have:=Vza t t.kids.length;omega)
theorem Ube(X:∀ i,CkS (x i) (cN t i))(k:Nd){S T:CSt}(h:Stp 0 S T):Stp (sC t 1) S (condR k (x 0) T).2:=by
 unfold condR;cases decide (k.kind=9);exact (h.trans ((X 0).ex T)).mono (by simp [sC]) |>.failu _ _ _
 exact h.mono (Nat.zero_le _)
theorem Yeg(X:∀ i,CkS (x i) (cN t i))(S:CSt):Stp (sC t 3) S (ifR t x S).2:=by
 have h1:Stp (sC t 2) S ((x 1).blk (condR (Zb t 0) (x 0) S).2).2:=(Ube X _ (Stp.refl S)).trans ((X 1).blk _);unfold ifR;dsimp only;cases decide ((Zb t 2).kind=10);cases decide ((Zb t 2).kind=18);exact h1.mono (Nat.le_add_right _ _);exact h1.trans ((X 2).ifs _);exact h1.trans ((X 2).blk _)
theorem Ulg(X:∀ i,CkS (x i) (cN t i))(S:CSt):Stp (sC t 2) S (asgR t x S).2:=(((Ymd X S).failu _ _ _).trans ((X 1).ex _)).failu _ _ _
theorem Umg(X:∀ i,CkS (x i) (cN t i))(f:Bool)(S:CSt):Stp (1+sC t 2) S (casR t x f S).2:=by
 refine Jid (Stp.trans (a:=sC t 1) (T:=(bif decide ((Zb t 0).kind=9) then (clnT (Zb t 0),failU f t.pos 6 (openS S)) else (x 0).st (openS S)).2) ?_ ((X 1).sts _));cases decide ((Zb t 0).kind=9);exact ((X 0).st _).mono (by simp [sC]);exact ((Stp.refl _).failu _ _ _).mono (Nat.zero_le _)
theorem Wzd(X:∀ i,CkS (x i) (cN t i))(S:CSt):∀ i,Stp (sC t i) S (selA t x S i).2.2
 | 0=>Stp.refl S
 | i+1=>(Wzd X S i).trans ((X i).cas _ _)
theorem Ung(X:∀ i,CkS (x i) (cN t i))(S:CSt):Stp (1+sC t 2) S (varR F t x S).2:=by
 unfold varR;dsimp only;cases decide ((Zb t 1).kind=9);exact (((((Wab F _ S).trans ((X 1).ex _)).failu _ _ _).trans (Ubc _ _ _ _)).mono (by simp [sC];omega));exact ((Wab F _ S).trans (Ubc _ _ _ _)).mono (by omega)
theorem Uog(X:∀ i,CkS (x i) (cN t i))(S:CSt):Stp (1+sC t 1) S (defR t x S).2:=(((Ymd X S).failu _ _ _).trans (Ubc _ _ _ _)).mono (by omega)
theorem Upg(X:∀ i,CkS (x i) (cN t i))(S:CSt):Stp (sC t 2) S (forR t x S).2:=(Ube X _ (Stp.refl S)).trans ((X 1).blk _)
theorem Uqg(X:∀ i,CkS (x i) (cN t i))(S:CSt):Stp (sC t 1) S (retR t x S).2:=by
 unfold retR;dsimp only;cases decide ((t.kids.length:Int)=1);exact ((Stp.refl S).failu _ _ _).mono (Nat.zero_le _);exact ((((Stp.refl S).failu _ _ _).trans ((X 0).ex _)).mono (by simp [sC])).failu _ _ _
theorem Urg(X:∀ i,CkS (x i) (cN t i))(S:CSt):Stp (count t) S (stR F t x S).2:=by
 have hc:∀ i,sC t i+1≤count t:=Vza t;unfold stR;dsimp only;cases decide (t.kind=10);case true=>exact Xmf X S
 cases decide (t.kind=18);case true=>exact (Yeg X S).mono (by have:=hc 3;omega)
 cases decide (t.kind=12);case true=>exact (Ulg X S).mono (by have:=hc 2;omega)
 cases decide (t.kind=22);case true=>exact (Wzd X S _).mono (by have:=hc t.kids.length;omega)
 cases decide (t.kind=6);case true=>exact (Ung X S).mono (by have:=hc 2;omega)
 cases decide (t.kind=11);case true=>exact (Uog X S).mono (by have:=hc 1;omega)
 cases decide (t.kind=19);case true=>exact (Upg X S).mono (by have:=hc 2;omega)
 cases decide (t.kind=20);case true=>exact (Uqg X S).mono (by have:=hc 1;omega)
 have h:=Ymd X S;simp only [cond_false,wantS];cases decide (t.kind=16);case true=>exact (((h.failu _ _ _).trans ((X 1).ex _)).failu _ _ _).mono (by have:=hc 2;simp only [sC] at this ⊢;omega)
 cases decide (t.kind=17);case true=>exact (h.failu _ _ _).mono (by have:=hc 1;omega)
 cases decide (t.kind=21);case true=>exact (h.failu _ _ _).mono (by have:=hc 1;omega)
 exact h.mono (by have:=hc 1;omega)
theorem cks_f(X:∀ i,CkS (x i) (cN t i)):CkS (ckF F t x) (count t) :=
 ⟨Xkf X,fun S=>(Xjf X S).mono (by have:=Vza t 1;omega),Ukg X,Urg X,Xmf X,fun S=>(Yeg X S).mono (by have:=Vza t 3;omega),fun S=>(Xlf X S).mono (by have:=Vza t t.kids.length;omega),fun f S=>(Umg X f S).mono (by have:=Vza t 2;omega)⟩
end
theorem Wbb(F:Nd):∀ t,CkS (ckT F t) (count t):=by
 refine Nd.ind fun t ih=>?_;rw [Yxa];refine cks_f fun i=>?_;by_cases h:i<t.kids.length;rw [Vv h,Ucc h,Wc h];exact ih _ (List.getElem_mem h);rw [ckX,cN];simp only [List.getD_eq_getElem?_getD,List.getElem?_map];rw [List.getElem?_eq_none (by omega)];exact Jyg
theorem Yfg(F t:Nd)(i:Nat):CkS (ckX F t i) (cN t i):=by
 by_cases h:i<t.kids.length;rw [Vv h,Ucc h];exact Wbb F _;rw [ckX,cN];simp only [List.getD_eq_getElem?_getD,List.getElem?_map];rw [List.getElem?_eq_none (by omega)];exact Jyg
theorem Xxa:∀ t,count (plainT t)=count t:=by
 refine Nd.ind fun t ih=>?_;rw [Uw,Xva,List.map_map,Uw t];congr 2;exact List.map_congr_left fun k hk=>ih k hk
set_option maxRecDepth 100000 in
set_option maxHeartbeats 4000000 in
theorem Uce(t:Nd)(w:World)(h0:t.kids=[]):Ret PP Zie #[ndV t (.slice none 0 0)] w fun r w'=>r=ndV (stripT t) (.slice none 0 0)∧G w w':=by
 obtain ⟨k,x,n,a,ks,y,r,u⟩:=t;obtain rfl:ks=[]:=h0;obtain ⟨t,ht⟩:∃ t,t=Nd.mk k x n a [] y r u:=⟨_,rfl⟩;have h0:(0:Nat)=t.kids.length:=by rw [ht];rfl
 rw [← ht];have g:=G.refl w;refine WK 34 [0] Xjd ?_;refine Zi (Zk (BM fun b1 _ _ _ g E=>?_));refine AN fun b2 _ _ _ g E=>?_;refine Ze (kq (Zi (Zk (Yf Xl O (Yp Yh O (E.g1.at_ O) (Yf Yn O (Yp Yg O (E.g1.at_ O) (Jv Zt Xp (pqc O (pqc O pq0)) O O (AN fun b3 _ _ _ g E=>?_)))))))));refine AS fun _ _ _ g E=>?_;refine AU ?_;refine CP ((by have:=Zcf t none 0;rw [← h0] at this;exact this _)) (fun w11 g11=>?_);have g:=g.trans g11;replace E:=E.grow g11;refine IF (fun h1=>?_) fun h1=>?_
 ·replace h1:countsB t=true:=h1
  refine AS fun wS2 _ _ g E=>?_;refine AU ?_
  have B3:Blk wS2 b3 Ys (ndCells (stripT t) (.slice none 0 0)):=by
   have h:=E.g0;rw [Jrb,numS,h1];exact h
  replace E:=E.r0 B3;refine AU ?_;have hnd1:=E.1;refine Xo (fun (i:Nat) u1=>(i=0∧Blk u1 b3 Ys (ndCells (stripT t) (.slice none 0 0)))∧G w u1) _ [(1,True,_),(2,True,_),(3,True,_)] (fun (i:Nat)=>[(4,True,.int .i64 i)]) (fun (i:Nat)=>0) (0) ⟨⟨rfl,E.g0⟩,g⟩ (Zs (blkE E.g2) (Zs (blkE E.g1) (Zz _))) (Za rfl (Za rfl (Za rfl (Za rfl (Zo _))))) ?_;clear E;rintro i u1 ⟨hI1,gl1⟩ ⟨B1,B2,_⟩;replace B1:Blk _ _ _ _:=B1;replace B2:Blk _ _ _ _:=B2;have g:=gl1;obtain ⟨hi,B3⟩:=hI1;subst hi;have E:=Jo (L:=[(b3,_,_),(b2,_,_),(b1,_,_)]) hnd1 ⟨B3,B2,B1,trivial⟩ rfl;refine IF (fun h2=>?_) fun h2=>?_
  ·exfalso;simp only [decide_eq_true_eq] at h2;omega
   done
  refine AS fun _ _ _ g E=>?_;refine RTN ?_;exact ⟨rfl,g⟩
 replace h1:countsB t=false:=h1;refine AU ?_
 have B3:Blk w11 b3 Ys (ndCells (stripT t) (.slice none 0 0)):=by
  have h:=E.g0;rw [Jrb,numS,h1];exact h
 replace E:=E.r0 B3;refine AU ?_;have hnd1:=E.1;refine Xo (fun (i:Nat) u1=>(i=0∧Blk u1 b3 Ys (ndCells (stripT t) (.slice none 0 0)))∧G w u1) _ [(1,True,_),(2,True,_),(3,True,_)] (fun (i:Nat)=>[(4,True,.int .i64 i)]) (fun (i:Nat)=>0) (0) ⟨⟨rfl,E.g0⟩,g⟩ (Zs (blkE E.g2) (Zs (blkE E.g1) (Zz _))) (Za rfl (Za rfl (Za rfl (Za rfl (Zo _))))) ?_;clear E;rintro i u1 ⟨hI1,gl1⟩ ⟨B1,B2,_⟩;replace B1:Blk _ _ _ _:=B1;replace B2:Blk _ _ _ _:=B2;have g:=gl1;obtain ⟨hi,B3⟩:=hI1;subst hi;have E:=Jo (L:=[(b3,_,_),(b2,_,_),(b1,_,_)]) hnd1 ⟨B3,B2,B1,trivial⟩ rfl;refine IF (fun h2=>?_) fun h2=>?_
 ·exfalso;simp only [decide_eq_true_eq] at h2;omega
  done
 refine AS fun _ _ _ g E=>?_;refine RTN ?_;exact ⟨rfl,g⟩
theorem Usg{t:Nd}(h:((decide (t.kind=9)&&decide (t.text=[]))&&leafB t)=true):ofF t=(ty0,true):=by
 simp only [Bool.and_eq_true] at h;unfold ofF;rw [h.2,h.1.1,h.1.2];rfl
theorem Zwh{t:Nd}(h:((decide (t.kind=9)&&decide (t.text=[]))&&leafB t)=false)(h2:isTypeB t=false):ofF t=(ty0,false):=by
 unfold ofF;unfold isTypeB at h2;cases h3:leafB t;rfl;rw [h3,Bool.and_true] at h;simp only [Bool.not_true,cond_false];cases h4:decide (t.kind=9);simp only [cond_false];cases h5:decide (t.kind=8);simp only [cond_false];cases h6:decide (t.kind=7);rfl;rw [h5,h6,h3] at h2;simp only [cond_true,cond_false,Bool.and_true] at h2;rw [h2];rfl;rw [h5,h3,Bool.and_true] at h2;simp only [cond_true] at h2;rw [h2];rfl;rw [h4,Bool.true_and] at h;rw [h];rfl
theorem Zxh{t:Nd}(h2:isTypeB t=true)(h3:decide (t.kind=8)=true):ofF t=(⟨4,t.text⟩,true):=by
 unfold isTypeB at h2;rw [h3,cond_true,Bool.and_eq_true] at h2;have hk:=of_decide_eq_true h3;unfold ofF;rw [h2.2,h3,h2.1,Wdh (by omega:¬ t.kind=9)];rfl
theorem Ysb{t:Nd}(h2:isTypeB t=true)(h3:decide (t.kind=8)=false):ofF t=(⟨typKind t.text,[]⟩,true)∧typeNameB t.text=true:=by
 unfold isTypeB at h2;rw [h3,cond_false] at h2;cases h4:decide (t.kind=7);rw [h4] at h2;cases h2;rw [h4,cond_true,Bool.and_eq_true] at h2;have hk:=of_decide_eq_true h4;unfold ofF;rw [h2.2,h3,h4,h2.1,Wdh (by omega:¬ t.kind=9)];exact ⟨rfl,rfl⟩
theorem Ytb(t:Nd)(p:Option Addr)(c:Nat)(w:World):Ret PP Wnf #[ndV t (.slice p t.kids.length c)] w fun v w'=>v = .tuple #[tyV (ofF t).1,.bool (ofF t).2]∧G w w':=by
  have g := G.refl w
  refine WK 59 [0] Wee ?_
  refine BM fun _ _ _ _ g E => ?_
  refine AN fun _ _ _ _ g E => ?_
  refine IF (fun h1 => ?_) fun h1 => ?_
  · replace h1 : ((decide (t.kind = 9) && decide (t.text = [])) && leafB t) = true := h1
    refine AS fun _ _ _ g E => ?_
    refine RTN ?_
    rw [Usg h1]; exact ⟨rfl, g⟩
  replace h1 : ((decide (t.kind = 9) && decide (t.text = [])) && leafB t) = false := h1
  refine AU ?_
  refine CP (Zic _ _ _ _) (fun w20 g20 => ?_)
  have g := g.trans g20
  replace E := E.grow g20
  refine IF (fun h2 => ?_) fun h2 => ?_
  · (try simp only [bsimp] at h2)
    refine AS fun _ _ _ g E => ?_
    refine RTN ?_
    rw [Zwh h1 (by simpa using h2)]; exact ⟨rfl, g⟩
  have hty : isTypeB t = true := by simpa using h2
  refine Yb (kq (Zi (Zi (Zk (Yf Xl O (Yp Yh O (E.g1.at_ O) (Zya O O (Ze (kq (Wn O (fun h3 => ?_) (fun h3 => ?_)))))))))))
  · (try simp only [bsimp] at h3)
    refine Zi (Zk (Yf Yn O (Yp Yg O (E.g1.at_ O) (Jv Wl Vi (pqc O (pqc O pq0)) O O (AS fun _ _ _ g E => ?_)))))
    refine RTN ?_
    rw [Zxh hty h3]; exact ⟨rfl, g⟩
  refine IF (fun h4 => ?_) fun h4 => ?_
  · (try simp only [bsimp] at h4)
    refine AS fun _ _ _ g E => ?_
    refine RTN ?_
    obtain ⟨e, hn⟩ := Ysb hty h3
    rw [e]
    have hx := h4
    refine ⟨?_, g⟩
    first
    | (have e2 := of_decide_eq_true hx; rw [e2]; rfl)
    | (have hm := (Ypa _ _).1 hn
       simp only [typeNames, List.mem_cons, List.not_mem_nil, or_false] at hm
       simp only [decide_eq_false_iff_not] at h4 h5 h6 h7 h8 h9 h10 h11 h12
       have e2 : t.text = [97, 116, 111, 109, 105, 99] := by simpa only [h4, h5, h6, h7, h8, h9, h10, h11, h12, false_or] using hm
       rw [e2]; rfl)
  refine IF (fun h5 => ?_) fun h5 => ?_
  · (try simp only [bsimp] at h5)
    refine AS fun _ _ _ g E => ?_
    refine RTN ?_
    obtain ⟨e, hn⟩ := Ysb hty h3
    rw [e]
    have hx := h5
    refine ⟨?_, g⟩
    first
    | (have e2 := of_decide_eq_true hx; rw [e2]; rfl)
    | (have hm := (Ypa _ _).1 hn
       simp only [typeNames, List.mem_cons, List.not_mem_nil, or_false] at hm
       simp only [decide_eq_false_iff_not] at h4 h5 h6 h7 h8 h9 h10 h11 h12
       have e2 : t.text = [97, 116, 111, 109, 105, 99] := by simpa only [h4, h5, h6, h7, h8, h9, h10, h11, h12, false_or] using hm
       rw [e2]; rfl)
  refine IF (fun h6 => ?_) fun h6 => ?_
  · (try simp only [bsimp] at h6)
    refine AS fun _ _ _ g E => ?_
    refine RTN ?_
    obtain ⟨e, hn⟩ := Ysb hty h3
    rw [e]
    have hx := h6
    refine ⟨?_, g⟩
    first
    | (have e2 := of_decide_eq_true hx; rw [e2]; rfl)
    | (have hm := (Ypa _ _).1 hn
       simp only [typeNames, List.mem_cons, List.not_mem_nil, or_false] at hm
       simp only [decide_eq_false_iff_not] at h4 h5 h6 h7 h8 h9 h10 h11 h12
       have e2 : t.text = [97, 116, 111, 109, 105, 99] := by simpa only [h4, h5, h6, h7, h8, h9, h10, h11, h12, false_or] using hm
       rw [e2]; rfl)
  refine IF (fun h7 => ?_) fun h7 => ?_
  · (try simp only [bsimp] at h7)
    refine AS fun _ _ _ g E => ?_
    refine RTN ?_
    obtain ⟨e, hn⟩ := Ysb hty h3
    rw [e]
    have hx := h7
    refine ⟨?_, g⟩
    first
    | (have e2 := of_decide_eq_true hx; rw [e2]; rfl)
    | (have hm := (Ypa _ _).1 hn
       simp only [typeNames, List.mem_cons, List.not_mem_nil, or_false] at hm
       simp only [decide_eq_false_iff_not] at h4 h5 h6 h7 h8 h9 h10 h11 h12
       have e2 : t.text = [97, 116, 111, 109, 105, 99] := by simpa only [h4, h5, h6, h7, h8, h9, h10, h11, h12, false_or] using hm
       rw [e2]; rfl)
  refine IF (fun h8 => ?_) fun h8 => ?_
  · (try simp only [bsimp] at h8)
    refine AS fun _ _ _ g E => ?_
    refine RTN ?_
    obtain ⟨e, hn⟩ := Ysb hty h3
    rw [e]
    have hx := h8
    refine ⟨?_, g⟩
    first
    | (have e2 := of_decide_eq_true hx; rw [e2]; rfl)
    | (have hm := (Ypa _ _).1 hn
       simp only [typeNames, List.mem_cons, List.not_mem_nil, or_false] at hm
       simp only [decide_eq_false_iff_not] at h4 h5 h6 h7 h8 h9 h10 h11 h12
       have e2 : t.text = [97, 116, 111, 109, 105, 99] := by simpa only [h4, h5, h6, h7, h8, h9, h10, h11, h12, false_or] using hm
       rw [e2]; rfl)
  refine IF (fun h9 => ?_) fun h9 => ?_
  · (try simp only [bsimp] at h9)
    refine AS fun _ _ _ g E => ?_
    refine RTN ?_
    obtain ⟨e, hn⟩ := Ysb hty h3
    rw [e]
    have hx := h9
    refine ⟨?_, g⟩
    first
    | (have e2 := of_decide_eq_true hx; rw [e2]; rfl)
    | (have hm := (Ypa _ _).1 hn
       simp only [typeNames, List.mem_cons, List.not_mem_nil, or_false] at hm
       simp only [decide_eq_false_iff_not] at h4 h5 h6 h7 h8 h9 h10 h11 h12
       have e2 : t.text = [97, 116, 111, 109, 105, 99] := by simpa only [h4, h5, h6, h7, h8, h9, h10, h11, h12, false_or] using hm
       rw [e2]; rfl)
  refine IF (fun h10 => ?_) fun h10 => ?_
  · (try simp only [bsimp] at h10)
    refine AS fun _ _ _ g E => ?_
    refine RTN ?_
    obtain ⟨e, hn⟩ := Ysb hty h3
    rw [e]
    have hx := h10
    refine ⟨?_, g⟩
    first
    | (have e2 := of_decide_eq_true hx; rw [e2]; rfl)
    | (have hm := (Ypa _ _).1 hn
       simp only [typeNames, List.mem_cons, List.not_mem_nil, or_false] at hm
       simp only [decide_eq_false_iff_not] at h4 h5 h6 h7 h8 h9 h10 h11 h12
       have e2 : t.text = [97, 116, 111, 109, 105, 99] := by simpa only [h4, h5, h6, h7, h8, h9, h10, h11, h12, false_or] using hm
       rw [e2]; rfl)
  refine IF (fun h11 => ?_) fun h11 => ?_
  · (try simp only [bsimp] at h11)
    refine AS fun _ _ _ g E => ?_
    refine RTN ?_
    obtain ⟨e, hn⟩ := Ysb hty h3
    rw [e]
    have hx := h11
    refine ⟨?_, g⟩
    first
    | (have e2 := of_decide_eq_true hx; rw [e2]; rfl)
    | (have hm := (Ypa _ _).1 hn
       simp only [typeNames, List.mem_cons, List.not_mem_nil, or_false] at hm
       simp only [decide_eq_false_iff_not] at h4 h5 h6 h7 h8 h9 h10 h11 h12
       have e2 : t.text = [97, 116, 111, 109, 105, 99] := by simpa only [h4, h5, h6, h7, h8, h9, h10, h11, h12, false_or] using hm
       rw [e2]; rfl)
  refine IF (fun h12 => ?_) fun h12 => ?_
  · (try simp only [bsimp] at h12)
    refine AS fun _ _ _ g E => ?_
    refine RTN ?_
    obtain ⟨e, hn⟩ := Ysb hty h3
    rw [e]
    have hx := h12
    refine ⟨?_, g⟩
    first
    | (have e2 := of_decide_eq_true hx; rw [e2]; rfl)
    | (have hm := (Ypa _ _).1 hn
       simp only [typeNames, List.mem_cons, List.not_mem_nil, or_false] at hm
       simp only [decide_eq_false_iff_not] at h4 h5 h6 h7 h8 h9 h10 h11 h12
       have e2 : t.text = [97, 116, 111, 109, 105, 99] := by simpa only [h4, h5, h6, h7, h8, h9, h10, h11, h12, false_or] using hm
       rw [e2]; rfl)
  refine AS fun _ _ _ g E => ?_
  refine RTN ?_
  obtain ⟨e, hn⟩ := Ysb hty h3
  rw [e]
  have hx := h12
  refine ⟨?_, g⟩
  first
  | (have e2 := of_decide_eq_true hx; rw [e2]; rfl)
  | (have hm := (Ypa _ _).1 hn
     simp only [typeNames, List.mem_cons, List.not_mem_nil, or_false] at hm
     simp only [decide_eq_false_iff_not] at h4 h5 h6 h7 h8 h9 h10 h11 h12
     have e2 : t.text = [97, 116, 111, 109, 105, 99] := by simpa only [h4, h5, h6, h7, h8, h9, h10, h11, h12, false_or] using hm
     rw [e2]; rfl)
theorem Zkf(t:Nd)(name:List UInt8)(v:Value)(D:Nat→Prop)(w:World)(hk:Kd w D t.kids v)(hc:count t≤1000000):Ret PP Uwd #[ndV t v,Str name] w fun r w'=>FldV (Zma t name) r w'∧G w w':=by
 obtain ⟨p,c,rfl,hcap,hks⟩:=hk;have g:=G.refl w;have hlen:=Wz t;refine WK 73 [0,1] Zid ?_;refine BM fun _ w2 _ _ g E=>?_;refine AU ?_;refine Jn (fun (i:Nat) u1=>(i≤t.kids.length∧∀ j,(hj:j<t.kids.length)→j<i→isStr name t.kids[j]=false)∧G w2 u1) [(1,True,_),(2,True,_)] (fun (i:Nat)=>[(6,True,.int .i64 i)]) (fun (i:Nat)=>t.kids.length-i) (0) ⟨⟨Nat.zero_le _,fun j _ hj=>absurd hj (Nat.not_lt_zero j)⟩,G.refl _⟩ (Za O (Za O (Za O (Zo _)))) ?_;rintro i u1 ⟨hI1,gl1⟩;have g:=g.trans gl1;replace E:=E.grow gl1;refine Zi (Zi (Zk (Zp O (Yf Zg O (Yp Zf O (E.g0.at_ O) (Xha Zc O (Xna O O (Ze (kq (Wn O (fun h1=>?_) (fun h1=>?_)))))))))));replace h1:i<t.kids.length:=by simp only [decide_eq_true_eq] at h1;omega
 obtain ⟨b,o,rfl,hD,xs,hR,hX⟩:=hks (by omega);obtain ⟨p',c',hcell,hkid⟩:=Zgb hR hX h1;have hck:=Zfa h1;have hkl:=Wz t.kids[i];refine Yb (kq (Zi (Yo (Zi (Zk (Yf Zg O (Yp Zf O (E.g0.at_ O) (Zp O (Qpa Zc O O (by omega) (Ve Zh O O (hcell.grow g) (AN fun _ _ ga _ g E=>?_)))))))))));have l7_gl1:=ga.ge gl1;have gl1:=gl1.trans (ga.g);refine AS fun wS1 ga _ g E=>?_;first|replace gl1:=Ya gl1 ga (by omega)|clear gl1|skip
 refine IF (fun h2=>?_) fun h2=>?_;replace h2:(!decide (t.kids[i].kind=2) || !decide (t.kids[i].text=name))=true:=h2;refine AU ?_;refine SK [6,1,2] ?_;refine Ze (fun a ha=>?_)
 exact ⟨i+1,ha,⟨⟨h1,fun j hj1 hj=>by
  by_cases e:j=i;subst e;unfold isStr;rw [h2];rfl;exact hI1.2 j hj1 (by omega)⟩,gl1⟩,by omega⟩
 replace h2:(!decide (t.kids[i].kind=2) || !decide (t.kids[i].text=name))=false:=h2;have hf:=Vrg h1 hI1.2 (by unfold isStr;rw [h2];rfl)
 have hN:Zma t name=match mapO Zib t.kids[i].kids with
  | none=>([],false)
  | some l=>(l,true):=by unfold Zma;rw [hf];try rfl
 obtain ⟨p2,c2,hpe,hcap2,hks2⟩:=hkid;injection hpe with hpe _ hce;subst hpe hce;have hb2:=E.g1.lt;have hb7:=E.g0.lt;refine AU ?_;refine Jn (fun (x:Nat×Option Addr×Nat×List Fld) u2=>match x with|⟨k,a,ca,l⟩=>(k≤t.kids[i].kids.length∧mapO Zib (t.kids[i].kids.take k)=some l∧u2.ownsRow wS1.heap.size Jha 3 (.slice a l.length ca) l.length (l.flatMap fldCells))∧G wS1 u2) [(1,True,_),(2,True,_),(6,True,_),(7,True,_)] (fun (x:Nat×Option Addr×Nat×List Fld)=>match x with|⟨k,a,ca,l⟩=>[(8,True,.slice a l.length ca),(9,True,.int .i64 k)]) (fun (x:Nat×Option Addr×Nat×List Fld)=>match x with|⟨k,a,ca,l⟩=>t.kids[i].kids.length-k) ((0,none,0,[])) ⟨⟨Nat.zero_le _,rfl,Zja _ _ _ _⟩,G.refl _⟩ (Za O (Za O (Za O (Za O (Za O (Za O (Zo _))))))) ?_;rintro ⟨k,a,ca,l⟩ u2 ⟨hI2,gl2⟩;have g:=g.trans gl2;have gl1:=gl1.trans gl2;replace E:=E.grow gl2;obtain ⟨hk,hm,hO⟩:=hI2;have hll:=Wmd Zib _ _ hm;rw [List.length_take] at hll;refine Zi (Zi (Zk (Zp O (Yf Zg O (Yp Zf O (E.g0.at_ O) (Xha Zc O (Xna O O (Ze (kq (Wn O (fun h3=>?_) (fun h3=>?_)))))))))));replace h3:k<t.kids[i].kids.length:=by simp only [decide_eq_true_eq] at h3;omega
 obtain ⟨b2,o2,rfl,hD2,xs2,hR2,hX2⟩:=hks2 (by omega);obtain ⟨p3,c3,hcell3,hkid3⟩:=Zgb hR2 hX2 h3;have hck3:=Zfa h3;refine Yb (kq (Zi (Yo (Zi (Zk (Yf Zg O (Yp Zf O (E.g0.at_ O) (Zp O (Qpa Zc O O (by omega) (Ve Zh O O (hcell3.grow g) (?_)))))))))));have hlt10:=fun k hk=>(hO.lt k hk).2;refine AN fun b10 _ N10 _ g E=>?_;have l10_gl1:=N10.ge gl1;have l10_gl2:=N10.ge gl2;have gl1:=gl1.trans (N10.g);have gl2:=gl2.trans (N10.g);have hO:=Xz hO (N10.g);have ne10:(Value.slice a l.length ca).ownBlock≠some b10:=fun h=>by have:=hlt10 _ h;have:=N10.at_;omega
 refine AS fun _ ga _ g E=>?_;first|replace gl1:=Ya gl1 ga (by omega)|clear gl1|skip
 first|replace gl2:=Ya gl2 ga (by omega)|clear gl2|skip
 have hO:=Xw hO ga (.inr ne10);refine IF (fun h4=>?_) fun h4=>?_;replace h4:(!decide (t.kids[i].kids[k].kind=3) || !decide ((t.kids[i].kids[k].kids.length:Int)=1))=true:=h4;have hbad:=Wld Zib _ _ (List.getElem_mem h3) (by unfold Zib;rw [h4];rfl);refine Zi (Zk (Yr O (Yr O (Ze (kq (Xe (Wkb (ts:=[4,5]) (vs:=[_,_]) O O O ?_)))))));rw [hN,hbad];exact ⟨⟨_,rfl,Zhb _⟩,g⟩;replace h4:(!decide (t.kids[i].kids[k].kind=3) || !decide ((t.kids[i].kids[k].kids.length:Int)=1))=false:=h4
 have h1k:t.kids[i].kids[k].kids.length=1:=by
  simp only [Bool.or_eq_false_iff,Bool.not_eq_false',decide_eq_true_eq] at h4;omega
 obtain ⟨h0k,ek⟩:=Vug h1k;obtain ⟨p4,c4,hpe4,_,hks4⟩:=hkid3;injection hpe4 with hpe4 _ hce4;subst hpe4 hce4;obtain ⟨b4,o4,rfl,hD4,xs4,hR4,hX4⟩:=hks4 (by omega);obtain ⟨p5,c5,hcell5,_⟩:=Zgb hR4 hX4 h0k;refine Yb (kq (Zi (Zk (Yf Zg O (Yp Zf O (E.g0.at_ O) (Zq O (fun _=>Qna Zc (Zd O) Xg (fun _=>by show (0:Int)≤0∧(0:Int)<((t.kids[i].kids[k].kids.length:Nat):Int);omega)) (Ve Zh O O (hcell5.grow g) (Vg O (Yi Yxb Vc (aqc O aq0) O) (Ytb _ _ _ _) (fun w60 g60=>?_)))))))));have g:=g.trans g60;have gl1:=gl1.trans (g60);have gl2:=gl2.trans (g60);replace E:=E.grow g60;have hO:=Xz hO (g60);refine AU ?_;have hlt11:=fun k hk=>(hO.lt k hk).2;refine AN fun b11 _ N11 _ g E=>?_;have l11_gl1:=N11.ge gl1;have l11_gl2:=N11.ge gl2;have gl1:=gl1.trans (N11.g);have gl2:=gl2.trans (N11.g);have hO:=Xz hO (N11.g);have ne11:(Value.slice a l.length ca).ownBlock≠some b11:=fun h=>by have:=hlt11 _ h;have:=N11.at_;omega
 refine AS fun _ ga _ g E=>?_;first|replace gl1:=Ya gl1 ga (by omega)|clear gl1|skip
 first|replace gl2:=Ya gl2 ga (by omega)|clear gl2|skip
 have hO:=Xw hO ga (.inr ne11);refine IF (fun h5=>?_) fun h5=>?_;replace h5:(!(ofF t.kids[i].kids[k].kids[0]).2)=true:=h5;have hbad:=Wld Zib _ _ (List.getElem_mem h3) (by unfold Zib;rw [h4,ek];simp only [Bool.not_eq_true'] at h5;rw [h5];rfl);refine Zi (Zk (Yr O (Yr O (Ze (kq (Xe (Wkb (ts:=[4,5]) (vs:=[_,_]) O O O ?_)))))));rw [hN,hbad];exact ⟨⟨_,rfl,Zhb _⟩,g⟩;replace h5:(!(ofF t.kids[i].kids[k].kids[0]).2)=false:=h5;have hgood:Zib t.kids[i].kids[k]=some ⟨t.kids[i].kids[k].text,(ofF t.kids[i].kids[k].kids[0]).1⟩:=by unfold Zib;rw [h4,ek];simp only [Bool.not_eq_false'] at h5;rw [h5];rfl
 refine Yb (kq (Zk (Zp O (Yf Yn O (Yp Yg O (E.g1.at_ O) (Ve Xd O O E.g0.row (Jv Vjb Vpc (pqc O (pqc O pq0)) O O (CN fun _ _ ga _ g E=>?_))))))));have l70_gl1:=ga.ge gl1;have l70_gl2:=ga.ge gl2;have gl2:=gl2.trans (ga.g);have hO:=Xz hO (ga.g);refine Jg O Xca Vjb O (by decide) (Zd O) hO (Zd O) O E.g0.row O (by simp only [maxLen];omega) (by omega) (by have:=gl2.size;omega) ?_;intro a' c' w71 hO' hg71 hat;have hOg:=fun k hk=>(hO.lt k hk).1;have g:=Qc g hg71 (fun k hk=>by have:=hOg k hk;omega);replace gl2:=Qc gl2 hg71 hOg;replace E:=E.sel [false,false,false,true,true];replace E:=E.keep hg71 (List.forall_mem_cons.2 ⟨((fun he=>by have:=hOg _ he.symm;omega)),List.forall_mem_cons.2 ⟨((fun he=>by have:=hOg _ he.symm;omega)),List.forall_mem_nil _⟩⟩);have hO2:=Zag ⟨t.kids[i].kids[k].text,(ofF t.kids[i].kids[k].kids[0]).1⟩ hO';refine AU ?_;refine SK [8,9,1,2,6,7] ?_;refine Ze (fun a ha=>?_);refine ⟨(k+1,a',c',l++[⟨t.kids[i].kids[k].text,(ofF t.kids[i].kids[k].kids[0]).1⟩]),?_,⟨⟨h3,Jzf h3 hm hgood,hO2⟩,gl2⟩,by show t.kids[i].kids.length-(k+1)<t.kids[i].kids.length-k;omega⟩;simpa using ha;replace h3:k=t.kids[i].kids.length:=by simp only [decide_eq_false_iff_not] at h3;omega
 subst h3;rw [List.take_length] at hm;refine RTN ?_;rw [hN,hm];exact ⟨⟨_,rfl,Vtg hO⟩,g⟩;replace h1:i=t.kids.length:=by simp only [decide_eq_false_iff_not] at h1;omega
 subst h1;refine RTN ?_;have hN:Zma t name=([],false):=by unfold Zma;rw [Vsg fun j hj=>hI1.2 j hj (by omega)]
 rw [hN];exact ⟨⟨_,rfl,Zhb _⟩,g⟩
theorem Wi{F:Nd}{n0 b:Nat}{S:CSt}{w:World}(a e:Int)(h:Chk F n0 b S w):Ret PP Ybc #[.pointer (some ⟨b,0,none⟩),.int .i64 a,.int .i64 e] w fun r w'=>r = .tuple #[]∧Chk F n0 b (failS a e S) w'∧GT mutR n0 w w':=by
 obtain ⟨fv,sv,sn,h⟩:=h;have g:=GT.refl mutR n0 w;refine WK 19 [0,1,2] Udb ?_;refine IF (fun h1=>?_) fun h1=>?_;(try simp only [bsimp] at h1);refine AU ?_;refine Xi O Va (Zd O) (Zd O) O O h.B O O ?_;intro wA hgA hzA BA;have g:=Wu g hgA h.B rfl h.hb;have h:=h.set (S':={ S with ea:=a }) hgA BA rfl rfl;refine AU ?_;refine Xi O Vmc (Zd O) (Zd O) O O h.B O O ?_;intro wC hgC hzC BC;have g:=Wu g hgC h.B rfl h.hb;have h:=h.set (S':={ S with ea:=a,ee:=e }) hgC BC rfl rfl;refine Ze (Qn O ?_);refine ⟨rfl,?_,g⟩;unfold failS;rw [h1];exact h.chk;refine Yb (Qn O ?_);refine ⟨rfl,?_,g⟩;unfold failS;rw [h1];exact h.chk
theorem Vq(t:Nd)(p:Option Addr)(c:Nat)(w:World):Ret PP Zge #[ndV t (.slice p t.kids.length c)] w fun r w'=>r=ndV (clnT t) (.slice none 0 0)∧G w w':=by
 have g:=G.refl w;refine WK 16 [0] Xid ?_;refine Zi (Zk (BM fun _ _ _ _ g E=>?_));refine AN fun _ _ _ _ g E=>?_;refine Ze (kq (Zi (Zk (Yf Xl O (Yp Yh O (E.g1.at_ O) (Yf Yn O (Yp Yg O (E.g1.at_ O) (Yf Qg O (Yp Yh O (E.g1.at_ O) (Jv Zt Xp (pqc O (pqc O (pqc O pq0))) O O (CL (Uce (.mk t.kind t.text t.num 0 [] ty0 0 0) _ O) ?_)))))))))));rintro _ _ ⟨rfl,ga⟩;refine RC fun g E=>?_;refine AN fun b3 _ _ _ g E=>?_;refine AS fun _ _ _ g E=>?_;refine AS fun wS2 _ _ g E=>?_;refine AU ?_
 have B3:Blk wS2 b3 Ys (ndCells (clnT t) (.slice none 0 0)):=by
  have h:=E.g0;rw [Jrb] at h;exact h
 replace E:=E.r0 B3;refine AS fun _ _ _ g E=>?_;refine RTN ?_;exact ⟨rfl,g⟩
theorem Ygg:∀ (t:Nd) (v:Value) (D:Nat→Prop) (w:World),Kd w D t.kids v→count t≤1000000→Ret PP Qyc #[ndV t v] w fun r w'=>RetN (plainT t) w.heap.size r w'∧G w w':=by
 refine Nd.ind fun t ih v D w hk hc=>?_;have hlen:=Wz t;obtain ⟨p,c,rfl,hcap,hks⟩:=hk;have g:=G.refl w;refine WK 26 [0] Udd ?_;refine BM fun b1 _ _ _ g E=>?_;refine AN fun b2 _ _ _ g E=>?_;refine AU ?_;refine CL (Vq t _ _ _) ?_;rintro _ _ ⟨rfl,ga⟩;refine RC fun g E=>?_;refine AN fun b3 _ _ _ g E=>?_;refine AS fun wS1 _ _ g E=>?_;refine AU ?_
 have B3:Blk wS1 b3 Ys (ndCells (plainT t) (.slice none 0 0)):=by
  have h:=E.g0;rw [Jhc];exact h
 replace E:=E.r0 B3;refine AU ?_;have hnd1:=E.1;refine Xo (fun (i:Nat) u1=>(i≤t.kids.length∧∃ s,Blk u1 b3 Ys (ndCells (plainT t) s)∧OwnN [b1,b2,b3] w.heap.size u1 ((t.kids.take i).map plainT) s)∧G w u1) _ [(1,True,_),(2,True,_),(3,True,_)] (fun (i:Nat)=>[(4,True,.int .i64 i)]) (fun (i:Nat)=>t.kids.length-i) (0) ⟨⟨Nat.zero_le _,_,E.g0,Wqa _ _ _⟩,g⟩ (Zs (blkE E.g2) (Zs (blkE E.g1) (Zz _))) (Za O (Za O (Za O (Za O (Zo _))))) ?_;clear E;rintro i u1 ⟨hI1,gl1⟩ ⟨B1,B2,_⟩;replace B1:Blk _ _ _ _:=B1;replace B2:Blk _ _ _ _:=B2;have g:=gl1;obtain ⟨hi,s,B3,hO⟩:=hI1;obtain ⟨sa,sc,rfl⟩:=hO.slice;have E:=Jo (L:=[(b3,_,_),(b2,_,_),(b1,_,_)]) hnd1 ⟨B3,B2,B1,trivial⟩ rfl;refine IF (fun h1=>?_) fun h1=>?_;replace h2:i<t.kids.length:=by simp only [decide_eq_true_eq] at h1;omega
 obtain ⟨b,o,rfl,hD,xs,hR,hX⟩:=hks (by omega);obtain ⟨p',c',hcell,hkid⟩:=Zgb hR hX h2;have hck:=Zfa h2;have hkl:=Wz t.kids[i];have hu:=g.size;refine Yb (kq (Zi (Yo (Yx [3,0,3,0,3,3,0,1,1,2,3,2] [true,true,true,true,true,true,true,true,true,true,true,true] [0,1,0,4,0,28,60,124,252,511,1023,2047] mix (by kernel_rfl) ?_))));have g:=gdr g;replace E:=E.dr;have hO:=hO.grow (G.drew _);have hB1lt:=E.g2.lt;have hB2lt:=E.g1.lt;have hB3lt:=E.g0.lt;have hOlt:=hO.lt;refine Yf Zg O (Yp Zf O (E.g0.at_ O) (Yf Zg O (Yp Zf O (E.g2.at_ O) (Zp O (Qpa Zc O O (by omega) (Ve Zh O O (hcell.grow g) (CL (ih _ (List.getElem_mem h2) _ _ _ (hkid.grow g) (by omega)) ?_)))))));rintro _ _ ⟨⟨p2,c2,rfl,hk2⟩,ga⟩;refine RC fun g E=>?_;have hO:=Uk hO;refine CN fun _ _ N22 _ g E=>?_;have hO:=hO.grow (N22.g);have hk2:=hk2.grow N22.g;have hOo:=hO;refine Xx O Zc Zt O (Zd O) hO (Zd O) O E.g0.row (Yc (hk2.mono fun k hk _=>⟨⟨⟨by have:u1.heap.size≤k:=hk.1;omega,by have:u1.heap.size≤k:=hk.1;have:=hB1lt;have:=hB2lt;have:=hB3lt;simp;omega⟩,hk.2⟩,fun he=>by have:=hOlt k he.symm;have:u1.heap.size≤k:=hk.1;omega⟩)) (by simp;omega) (by have:=g.size;omega) ⟨by have:=g.size;omega,by have q1:=E.g3.lt;have q2:=E.g2.lt;have q3:=E.g1.lt;simp;omega⟩ ?_;intro a23 c23 w23 hO hg23;replace E:=E.sel [false,true,true,true];replace E:=E.keepX hg23 hOo.ne (by simp [selB]);have g:=Qc g hg23 (fun k hk=>hOo.ge k hk);refine AS fun _ ga _ g E=>?_;have hO:=Ua hO;refine AU ?_;refine SK [4,1,2,3] ?_;refine Ze (fun a ha=>?_);exact ⟨i+1,ha,⟨⟨h2,_,E.g0,by rw [Jh h2,List.map_append];exact hO⟩,g⟩,(Zs (blkE E.g2) (Zs (blkE E.g1) (Zz _))),by omega⟩
 replace h2:i=t.kids.length:=by simp only [decide_eq_false_iff_not] at h1;omega
 subst h2;rw [List.take_length] at hO E;refine AS fun _ ga _ g E=>?_;have hO:=Ua hO;refine RTN ?_;exact ⟨Yxf (by rw [Xva];exact hO.kd),g⟩
theorem Yqa(F:Nd)(v:Value)(D:Nat→Prop)(w:World)(kd:Int)(s:List UInt8)(hk:Kd w D F.kids v)(hc:count F≤1000000):Ret PP Wge #[ndV F v,.int .i64 kd,Str s] w fun r w'=>(∃ p c,r = .tuple #[ndV (findD F kd s).1 (.slice p (findD F kd s).1.kids.length c),.int .i64 (findD F kd s).2]∧Kd w' D (findD F kd s).1.kids (.slice p (findD F kd s).1.kids.length c))∧G w w':=by
 obtain ⟨p,c,rfl,hcap,hks⟩:=hk;have hln:=Wz F;have g:=G.refl w;refine WK 42 [0,1,2] Ued ?_;refine BM fun _ _ _ _ g E=>?_;refine AN fun _ w6 _ _ g E=>?_;refine Yr rfl (Ze (kq (Zi (Zk (Yr rfl (Ze (kq (Zi (Zi (Zk (Yr rfl (Ze (kq (Yo (Jn (fun (x:Nat×Nat) u1=>match x with|⟨i,k⟩=>(i≤F.kids.length∧k≤i∧findD F kd s=findK kd s (F.kids.drop i) k)∧G w6 u1) [(1,True,_),(2,True,_),(3,True,_),(6,True,_)] (fun (x:Nat×Nat)=>match x with|⟨i,k⟩=>[(8,True,.int .i64 k),(9,True,.int .i64 i)]) (fun (x:Nat×Nat)=>match x with|⟨i,k⟩=>F.kids.length-i) (0,0) ⟨⟨Nat.zero_le _,Nat.le_refl _,rfl⟩,G.refl _⟩ (Za rfl (Za rfl (Za rfl (Za rfl (Za rfl (Za rfl (Zo _))))))) ?_)))))))))))))));rintro ⟨i,k⟩ u1 ⟨hI1,gl1⟩;have g:=g.trans gl1;replace E:=E.grow gl1;obtain ⟨hi,hki,hF⟩:=hI1;refine Zi (Zi (Zk (Zp O (Yf Zg O (Yp Zf O (E.g1.at_ O) (Xha Zc O (Xna O O (Ze (kq (Wn O (fun h1=>?_) (fun h1=>?_)))))))))));replace h1:i<F.kids.length:=by simp only [decide_eq_true_eq] at h1;omega
 obtain ⟨b,o,rfl,hD,xs,hR,hX⟩:=hks (by omega);obtain ⟨p',c',hcell,hkid⟩:=Zgb hR hX h1;rw [List.drop_eq_getElem_cons h1,findK] at hF;refine Yb (kq (Zi (Yo (Zi (Zi (Zk (Yf Zg O (Yp Zf O (E.g1.at_ O) (Zp O (Qpa Zc O O (by omega) (Yf Xl O (Yp Yh O ((hcell.grow g).one (i:=0) O) (Zp O (Yyd O O (Ze (kq (Wn O (fun h2=>?_) (fun h2=>?_))))))))))))))))));have hq:decide (F.kids[i].kind=kd)=false:=by simpa using h2
 rw [hq,cond_false] at hF;refine Jl O (kq (Zk (Zp O (Jta O O (by omega) (Yr O (Vf [(8,_,_),(9,_,_),(1,_,_),(2,_,_),(3,_,_),(6,_,_)] (Za O (Za O (Za O (Za O (Za O (Za O (Zo _))))))) (Ze (fun a ha=>?_))))))));exact ⟨(i+1,k),ha,⟨⟨h1,by omega,hF⟩,gl1⟩,by show _-(i+1)<_-i;omega⟩;have hq:decide (F.kids[i].kind=kd)=true:=by simpa using h2
 rw [hq,cond_true] at hF;refine Yb (kq (Zi (Zi (Zk (Yf Zg O (Yp Zf O (E.g1.at_ O) (Zp O (Qpa Zc O O (by omega) (Yf Yn O (Yp Yg O ((hcell.grow g).one (i:=1) O) (Zp O (Jvd O O (Ze (kq (Wn O (fun h3=>?_) (fun h3=>?_))))))))))))))));rw [h3,cond_true] at hF;refine Zi (Zk (Yf Zg O (Yp Zf O (E.g1.at_ O) (Zp O (Qpa Zc O O (by omega) (Ve Zh O O (hcell.grow g) (Zp O (AS fun _ ga _ g E=>?_))))))));first|replace gl1:=Ya gl1 ga (by omega)|clear gl1|skip
 refine RTN ?_;rw [hF];exact ⟨⟨p',c',rfl,hkid.grow g⟩,g⟩;rw [h3,cond_false] at hF;refine AU ?_;refine SK [8,9,1,2,3,6] ?_;refine Ze (fun a ha=>?_);exact ⟨(i+1,k+1),ha,⟨⟨h1,by omega,hF⟩,gl1⟩,by show _-(i+1)<_-i;omega⟩;replace h1:i=F.kids.length:=by simp only [decide_eq_false_iff_not] at h1;omega
 rw [List.drop_of_length_le (by omega),findK] at hF;refine AS fun _ ga _ g E=>?_;first|replace gl1:=Ya gl1 ga (by omega)|clear gl1|skip
 refine RTN ?_;rw [hF];exact ⟨⟨none,0,rfl,Qta _ _⟩,g⟩
theorem Jub{F:Nd}{n0 b:Nat}{S:CSt}{w:World}(t:Nd)(p:Option Addr)(c:Nat)(h:Chk F n0 b S w):Ret PP Wqb #[.pointer (some ⟨b,0,none⟩),ndV t (.slice p t.kids.length c)] w fun r w'=>r = .tuple #[]∧Chk F n0 b (pointerS F t S) w'∧GT mutR n0 w w':=by
 obtain ⟨fv,sv,sn,h⟩:=h;have hlt:=h.lt;have g:=GT.refl mutR n0 w;refine WK 25 [0,1] Ykb ?_;refine BM fun _ _ ga _ g E=>?_;have h:=Ui h;refine IF (fun h1=>?_) fun h1=>?_;(try simp only [bsimp] at h1);refine AU ?_;refine Xu (rowR none) [3,3,3,0,3,0,1,3,3,3,1,2,3] [0,1,3,7,0,16,63,127,255,255,0,1535,4095] mix (by kernel_rfl) [0,1,2,3,4,5,6,7,8,9,10,11,12] O ?_;have g:=gtd g;replace E:=E.dr;have h:=h.grow (G.drew _);refine Zx 0 O O (fun _=>Zl (Zd O)) (Zx 1 O O (fun _=>Jt (Zd O)) (Zx 2 O O (fun _=>Zn Wg (Zd O)) (Wh 3 O O (fun w1 hx=>Zy Zh (Zd O) O (fun _=>(h.B.keep hx (by intro q;first|(injection q with q;omega)|cases q)).row.part 0 9)) (Zx 4 O O (fun _=>Zn Yn (Zd O)) (Wh 5 O O (fun w1 hx=>Zw Yg (Zd O) (fun _=>(E.g0.keep hx (fun h=>nomatch h)).at_ O)) (Uza 6 10 O O ?_ ?_))))));refine Zv (L':=[7,8,9,10,11,12]) [3,3,3,0,3,0,1,3,3,3,1,2,3] rfl rfl rfl ?_;refine CL (Yqa F fv _ _ 2 t.text h.kF h.hF) ?_;rintro v16 w16 ⟨⟨p16,c16,rfl,hk16⟩,g16⟩;refine ⟨fun _=>g16,?_⟩;have g:=gtg g g16;replace E:=E.grow g16;have h:=h.grow (g16);refine Yj ((g16).only _) ?_;refine Zx 7 O O (fun _=>Zl (Zd O)) (Zx 8 O O (fun _=>Xs (Zd O) O) (Zx 9 O O (fun _=>Xs (Zd O) O) (Zu 10 O O ?_)));refine Zv (L':=[11,12]) [3,3,3,0,3,0,1,3,3,3,1,2,3] O O O ?_;refine AN fun _ _ N4 l4 g E=>?_;have h:=h.grow (N4.g);refine Yj ((N4.g).only _) ?_;refine Zu 11 O O ?_;refine Ye (L':=[12]) [3,3,3,0,3,0,1,3,3,3,1,2,3] O O O O ?_;refine AS fun _ ga Ca g E=>?_;have h:=Ub h;refine Yy ?_;refine Zx 12 O O (fun _=>Yu (Zd O)) (TK [0,3,5] (Qp (kq (Zi (Zk (Zp O (Xna O O (Ze (kq (Wn O (fun h2=>?_) (fun h2=>?_)))))))))));(try simp only [bsimp] at h2);refine AU ?_
 refine CL (Wi t.pos 5 h.chk) ?_;rintro _ _ ⟨rfl,h,ga⟩;refine RC fun g E=>?_;refine Ze (Qn O ?_);refine ⟨rfl,?_,g⟩;unfold pointerS failU;simp only [h1,h2,cond_true,cond_false,Bool.not_true,Bool.not_false];first|exact h|exact h.chk
 refine Yb (Qn O ?_);refine ⟨rfl,?_,g⟩;unfold pointerS failU;simp only [h1,h2,cond_true,cond_false,Bool.not_true,Bool.not_false];first|exact h|exact h.chk
 refine Zv (L':=[6,7,8,9,11,12]) [3,3,3,0,3,0,1,3,3,3,1,2,3] rfl rfl rfl ?_;refine AN fun _ _ N4 _ g E=>?_;have h:=h.grow (N4.g);refine Yj ((N4.g).only _) ?_;refine Zu 6 O O ?_;refine Zv (L':=[7,8,9,11,12]) [3,3,3,0,3,0,1,3,3,3,1,2,3] O O O ?_;refine CL (Yqa F fv _ _ 2 t.text h.kF h.hF) ?_;rintro v16 w16 ⟨⟨p16,c16,rfl,hk16⟩,g16⟩;refine ⟨fun _=>g16,?_⟩;have g:=gtg g g16;replace E:=E.grow g16;have h:=h.grow (g16);refine Yj ((g16).only _) ?_;refine Zx 7 O O (fun _=>Zl (Zd O)) (Zx 8 O O (fun _=>Xs (Zd O) O) (Zx 9 O O (fun _=>Xs (Zd O) O) (Zu 11 O O ?_)));refine Ye (L':=[12]) [3,3,3,0,3,0,1,3,3,3,1,2,3] O O O O ?_;refine AS fun _ ga Ca g E=>?_;have h:=Ub h;refine Yy ?_;refine Zx 12 O O (fun _=>Yu (Zd O)) (TK [0,3,5] (Qp (kq (Zi (Zk (Zp O (Xna O O (Ze (kq (Wn O (fun h2=>?_) (fun h2=>?_)))))))))));(try simp only [bsimp] at h2);refine AU ?_;refine CL (Wi t.pos 5 h.chk) ?_;rintro _ _ ⟨rfl,h,ga⟩;refine RC fun g E=>?_;refine Ze (Qn O ?_);refine ⟨rfl,?_,g⟩;unfold pointerS failU;simp only [h1,h2,cond_true,cond_false,Bool.not_true,Bool.not_false];first|exact h|exact h.chk
 refine Yb (Qn O ?_);refine ⟨rfl,?_,g⟩;unfold pointerS failU;simp only [h1,h2,cond_true,cond_false,Bool.not_true,Bool.not_false];first|exact h|exact h.chk
 refine Yb (Qn O ?_);refine ⟨rfl,?_,g⟩;unfold pointerS failU;simp only [h1,cond_true,cond_false,Bool.not_true,Bool.not_false];first|exact h|exact h.chk
theorem Qoc{F:Nd}{n0 b:Nat}{S:CSt}{w:World}(t:Nd)(p:Option Addr)(c:Nat)(h:Chk F n0 b S w):Ret PP Qnb #[.pointer (some ⟨b,0,none⟩),ndV t (.slice p t.kids.length c)] w fun r w'=>r=tyV (ofF t).1∧Chk F n0 b (localS F t S) w'∧GT mutR n0 w w':=by
 have hlt:=h.lt;have g:=GT.refl mutR n0 w;refine WK 23 [0,1] Wtb ?_;refine BM fun _ _ ga _ g E=>?_;have h:=Ui h;refine AN fun _ _ ga _ g E=>?_;have h:=Ui h;refine AU ?_;refine CL (Jub t _ _ h) ?_;rintro _ _ ⟨rfl,h,ga⟩;refine RC fun g E=>?_;refine AU ?_;refine CP (Ytb t _ _ _) (fun w12 g12=>?_);have g:=gtg g g12;replace E:=E.grow g12;have h:=h.grow (g12);refine AN fun _ _ ga _ g E=>?_;have h:=Ui h;refine AS fun _ ga Ca g E=>?_;have h:=Ub h;refine AU ?_;refine CP (Joa _ _) (fun w16 g16=>?_);have g:=gtg g g16;replace E:=E.grow g16;have h:=h.grow (g16);refine IF (fun h1=>?_) fun h1=>?_;have hv:Jz (ofF t).1=false:=by simpa using h1
 refine AU ?_;refine CL (Wi t.pos 7 h) ?_;rintro _ _ ⟨rfl,h,ga⟩;refine RC fun g E=>?_;refine AS fun _ ga Ca g E=>?_;have h:=Ub h;refine RTN ?_;refine ⟨rfl,?_,g⟩;unfold localS failU;rw [hv];exact h;have hv:Jz (ofF t).1=true:=by simpa using h1
 refine AS fun _ ga Ca g E=>?_;have h:=Ub h;refine RTN ?_;refine ⟨rfl,?_,g⟩;unfold localS failU;rw [hv];exact h
theorem Ude{F:Nd}{n0 b:Nat}{S:CSt}{w:World}(h:Chk F n0 b S w)(hs:S.scope≤100000000):Ret PP Yhc #[.pointer (some ⟨b,0,none⟩)] w fun r w'=>r = .tuple #[]∧Chk F n0 b (openS S) w'∧GT mutR n0 w w':=by
 obtain ⟨fv,sv,sn,h⟩:=h;have g:=GT.refl mutR n0 w;refine WK 9 [0] Ulb ?_;refine AU ?_;refine Xi O Va (Zd O) (Zd O) O O h.B O O ?_;intro wA hgA hzA BA;have g:=Wu g hgA h.B rfl h.hb;have h:=h.set (S':=openS S) hgA BA rfl rfl;refine Ze (Qn O ?_);exact ⟨rfl,h.chk,g⟩
theorem Xda{F:Nd}{n0 b:Nat}{S:CSt}{w:World}(t:Nd)(p:Option Addr)(c:Nat)(k a:Int)(h:Chk F n0 b S w):Ret PP Ygc #[.pointer (some ⟨b,0,none⟩),ndV t (.slice p t.kids.length c),.int .i64 k,.int .i64 a] w fun r w'=>r = .tuple #[]∧Chk F n0 b (wantS t k a S) w'∧GT mutR n0 w w':=by
 have hlt:=h.lt;have g:=GT.refl mutR n0 w;refine WK 16 [0,1,2,3] Ukb ?_;refine BM fun _ _ ga _ g E=>?_;have h:=Ui h;refine IF (fun h1=>?_) fun h1=>?_;have hv:decide (t.ty.kind=k)=false:=by simpa using h1
 refine AU ?_;refine CL (Wi a 7 h) ?_;rintro _ _ ⟨rfl,h,ga⟩;refine RC fun g E=>?_;refine Ze (Qn O ?_);refine ⟨rfl,?_,g⟩;unfold wantS failU;rw [hv];exact h;have hv:decide (t.ty.kind=k)=true:=by simpa using h1
 refine Yb (Qn O ?_);refine ⟨rfl,?_,g⟩;unfold wantS failU;rw [hv];exact h
theorem Vzf{l:List Vr}{sc:Nat}(h:(decide ((l.length:Int)>0)&&decide (((lst l).scope:Int)=sc))=true):0<l.length∧dropV sc l=dropV sc l.dropLast:=by
 simp only [Bool.and_eq_true,decide_eq_true_eq] at h;rcases List.eq_nil_or_concat l with e|⟨a,x,e⟩;subst e;simp at h;rw [List.concat_eq_append] at e;subst e;have hx:x.scope=sc:=by have:=h.2;simp [lst] at this;omega
 refine ⟨by simp,?_⟩;rw [List.dropLast_concat];unfold dropV;rw [List.reverse_append,List.reverse_singleton,List.singleton_append,List.dropWhile_cons_of_pos (by simp [hx])]
theorem Uaf{l:List Vr}{sc:Nat}(h:(decide ((l.length:Int)>0)&&decide (((lst l).scope:Int)=sc))=false):dropV sc l=l:=by
 rcases List.eq_nil_or_concat l with e|⟨a,x,e⟩;subst e;rfl;rw [List.concat_eq_append] at e;subst e
 have hx:x.scope≠sc:=by
  intro e;rw [Bool.and_eq_false_iff] at h;rcases h with h|h;simp at h;simp [lst,e] at h
 unfold dropV;rw [List.reverse_append,List.reverse_singleton,List.singleton_append,List.dropWhile_cons_of_neg (by simp [hx]),List.reverse_cons,List.reverse_reverse]
theorem Zyh{l:List Vr}(h:0<l.length):lst l=l[l.length-1]:=by
 rw [lst,List.getLast?_eq_getElem?,List.getElem?_eq_getElem (by omega)];rfl
theorem Udc{F:Nd}{n0 b:Nat}{S:CSt}{w:World}(h:Chk F n0 b S w)(hs:S.scope≤100000000)(hs1:1≤S.scope)(hv:S.vars.length≤100000000):Ret PP Yic #[.pointer (some ⟨b,0,none⟩)] w fun r w'=>r = .tuple #[]∧Chk F n0 b (shutS S) w'∧GT mutR n0 w w':=by
 have g:=GT.refl mutR n0 w;refine WK 49 [0] Umb ?_;refine Zi (Yo (Jn (fun (l:List Vr) u1=>(Chk F n0 b { S with vars:=l } u1∧dropV S.scope S.vars=dropV S.scope l∧l.length≤100000000)∧GT mutR n0 w u1) [(0,True,_)] (fun (l:List Vr)=>[]) (fun (l:List Vr)=>l.length) (S.vars) ⟨⟨h,rfl,hv⟩,GT.refl _ _ _⟩ (Za O (Zo _)) ?_));rintro l u1 ⟨hI1,gl1⟩;have g:=g.trans gl1;obtain ⟨⟨fv,sv,sn,h⟩,hd,hl⟩:=hI1;have hs2:({ S with vars:=l }:CSt).scope≤100000000:=hs;have hs3:1≤({ S with vars:=l }:CSt).scope:=hs1;obtain ⟨p,c,rfl,hcap,hat⟩:=Yoe (l:=l) h.ov;refine Zi (Zi (Yx [3,3,3,0,3,3,3,3,3,3,0,3,3,3,0,3,3,3,3,0,3,3,3,0,3,3] [true,true,true,true,true,true,true,true,true,true,true,true,true,true,true,true,true,true,true,true,true,true,true,true,true,true] [0,1,3,7,15,31,63,127,255,511,1023,127,2175,6271,14463,30847,63615,131071,262143,524287,127,1048703,3145855,7340159,16777215,33554431] mix (by kernel_rfl) ?_));have g:=gtd g;have gl1:=gl1.trans (GT.of_g (G.drew _));have h:=h.grow (G.drew _);refine Zp O (Qq O (Yf Yw O (Yp Yz O (h.B.at_ O) (Xha Yt O (Xve O O (Zp O (Zj O O O (fun _=>Zl (Zd O)) (Zj O O O (fun _=>Jt (Zm O id)) (Zj O O O (fun _=>Zn Yw (Zm O id)) (Yk O O O (Zw Yz (Zm O id) (fun _=>h.B.at_ O)) (Zj O O O (fun _=>Zl (Zd O)) (Zj O O O (fun _=>Jt (Zm O id)) (Zj O O O (fun _=>Zn Yw (Zm O id)) (Yk O O O (Zw Yz (Zm O id) (fun _=>h.B.at_ O)) (Zj O O O (fun _=>Vna Yt (Zm O id)) (?_))))))))))))))))
 refine Zj O O O (fun _=>Yfb (Zm O id) Xg (fun _=>by omega)) (Zj O O O (fun _=>Xb Yt (Zm O id) (Zm O id) (fun h6=>by have h6:=h6.2;simp only [decide_eq_true_eq] at h6;omega) (fun h6=>(hat 0 (by have h6:=h6.2;simp only [decide_eq_true_eq] at h6;omega)).1)) (Zj O O O (fun _=>Zn Jy (Zm O id)) (Yk O O O (Zw Yh (Zm O id) (fun h6=>by have hl0:0<l.length:=(by have h6:=h6.2;simp only [decide_eq_true_eq] at h6;omega);have e:((l.length:Int)-1).toNat=l.length-1:=(by omega);rw [e];exact (hat (l.length-1) (by omega)).2.one (i:=5) (by rw [← Zyh hl0];rfl))) (Zj O O O (fun _=>Zl (Zd O)) (Zj O O O (fun _=>Jt (Zm O id)) (Zj O O O (fun _=>Zn Zha (Zm O id)) (Yk O O O (Zw Yh (Zm O id) (fun _=>h.B.at_ O)) (Zj O O O (fun _=>Zpa (Zm O id) (Zm O id)) (Zq O (fun _=>Yd (Zd O) (Zm O id)) (Ze (kq (Wn O (fun h1=>?_) (fun h1=>?_)))))))))))));obtain ⟨hl0,hdl⟩:=Vzf h1;refine Yb (kq (Yo (Yx [3,3,3,3,0,3,3,3,0,3,3,3,3,3,2] [true,true,true,true,true,true,true,true,true,true,true,true,true,true,true] [0,0,2,6,14,0,32,96,224,480,992,2046,4095,8191,16383] mix (by kernel_rfl) ?_)));have g:=gtd g;have gl1:=gl1.trans (GT.of_g (G.drew _));have h:=h.grow (G.drew _);refine Zp O (Zp O (Qq O (Yf Yw O (Yp Yz O (h.B.at_ O) (Zp O (Qq O (Yf Yw O (Yp Yz O (h.B.at_ O) (Xha Yt O (Zq O (fun _=>Yfb (Zd O) Xg (fun _=>by omega)) (Zq O (fun _=>Xte Yt (Zd O) (Zd O) (fun _=>by omega)) (Qq O (Yf Yw O (Xi O Vo (Zd O) (Zd O) O O h.B O O ?_))))))))))))));intro wA hgA hzA BA;have e:((l.length:Int)-1).toNat=l.dropLast.length:=by rw [List.length_dropLast];omega
 rw [e] at BA;have g:=Wu g hgA h.B rfl h.hb;have gl1:=Wu gl1 hgA h.B rfl h.hb;have h:=h.setv (S':={ S with vars:=l.dropLast }) (Wgc _ _) (Zkg h.ov) hgA BA rfl;refine SK [0] ?_;refine Ze (fun a ha=>?_);exact ⟨l.dropLast,ha,⟨⟨h.chk,hd.trans hdl,by simp;omega⟩,gl1⟩,by simp;omega⟩;have hdl:=Uaf h1;refine AU ?_;refine Xi O Va (Zd O) (Zd O) O O h.B O O ?_;intro wC hgC hzC BC;have e:(S.scope:Int)-1=((S.scope-1:Nat):Int):=by omega
 rw [e] at BC;have g:=Wu g hgC h.B rfl h.hb;have h:=h.set (S':=shutS S) hgC (by unfold shutS;rw [hd,hdl];exact BC) (by show dropV _ _=_;rw [hd,hdl]) rfl;refine Ze (Qn O ?_);exact ⟨rfl,h.chk,g⟩
theorem Zlf{l:List Vr}{k:Nat}(h:k<l.length)(s:List UInt8):Jsb (l.take (k+1)) s=bif decide (l[k].name=s) then some l[k] else Jsb (l.take k) s:=by
 unfold Jsb;rw [List.take_succ_eq_append_getElem h,List.reverse_append,List.reverse_singleton,List.singleton_append,List.find?_cons];cases decide (l[k].name=s) <;> rfl
theorem Yhg{l:List Vr}{k:Nat}(h:k<l.length)(p:Vr→Bool):(l.take (k+1)).any p=((l.take k).any p || p l[k]):=by
 rw [List.take_succ_eq_append_getElem h,List.any_append];simp
theorem Vja{a e:Int}{S:CSt}(he:e≠0)(p q:Bool):failU (!(p || q)) a e S=(bif q then failS a e (failU (!p) a e S) else failU (!p) a e S):=by
 cases p <;> cases q <;> try rfl
 show failS a e S=failS a e (failS a e S);by_cases h:S.ee=0;have:failS a e S = { S with ea:=a,ee:=e }:=by unfold failS;rw [Weh h];rfl
 rw [this];unfold failS;rw [Wdh he];rfl;have:failS a e S=S:=by unfold failS;rw [Wdh h];rfl
 rw [this,this]
theorem Yig{α:Type}{l xs:List α}{m i:Nat}(h:l.take m=xs)(hi:i<m):l[i]? = xs[i]?:=by
 rw [← h,List.getElem?_take,if_pos hi]
theorem Utg{α:Type}{l:List α}{o:Nat}(h:o<l.length)(v:α):l.set o v=l.take o++[v]++l.drop (o+[v].length):=by
 rw [List.set_eq_take_append_cons_drop,if_pos h];simp
theorem Yve{w:World}{b b':Nat}{e e':TypeId}{l l':List Value}(h:Blk w b e l)(h':Blk w b' e' l')(he:Nat.beq e e'=false):b≠b':=fun q=>by
 subst q;unfold Blk at h h';rw [h] at h';injection h' with h';injection h' with _ h';subst h';simp at he
structure FSh (F:Nd):Prop where
  k6:∀ d∈F.kids,d.kind=6→1≤d.kids.length
  k4:∀ d∈F.kids,d.kind=4→2≤d.kids.length
  kp:∀ d∈F.kids,d.kind=4→∀ f∈(Zb d 0).kids,1≤f.kids.length
theorem Uaa{kd:Int}{s:List UInt8}:∀ (l:List Nd) (k:Nat),0≤(findK kd s l k).2→(findK kd s l k).1∈l∧(findK kd s l k).1.kind=kd
 | [],k,h=>absurd h (show ¬ (0:Int)≤-1 by decide)
 | d::l,k,h=>by
  rw [findK] at h ⊢;cases h1:decide (d.kind=kd);rw [h1,cond_false] at h;have:=Uaa l k h;exact ⟨List.mem_cons_of_mem _ this.1,this.2⟩;rw [h1,cond_true] at h;rw [cond_true];cases h2:decide (d.text=s);rw [h2,cond_false] at h;have:=Uaa l (k+1) h;exact ⟨List.mem_cons_of_mem _ this.1,this.2⟩;exact ⟨List.mem_cons_self,of_decide_eq_true h1⟩
theorem FSh.l6{F:Nd}(H:FSh F){s:List UInt8}(h:0≤(findD F 6 s).2):0<(findD F 6 s).1.kids.length:=H.k6 _ (Uaa _ _ h).1 (Uaa _ _ h).2
theorem FSh.l4{F:Nd}(H:FSh F){s:List UInt8}(h:0≤(findD F 4 s).2):2≤(findD F 4 s).1.kids.length:=H.k4 _ (Uaa _ _ h).1 (Uaa _ _ h).2
theorem FSh.lp{F:Nd}(H:FSh F){s:List UInt8}(h:0≤(findD F 4 s).2):∀ f∈(Zb (findD F 4 s).1 0).kids,1≤f.kids.length:=H.kp _ (Uaa _ _ h).1 (Uaa _ _ h).2
def vrP(S:CSt)(name:List UInt8)(v:Vr):Bool:=decide (v.scope=S.scope)&&decide (v.name=name)
theorem Vka{F:Nd}{n0 b:Nat}{S:CSt}{w:World}{N:Nat}(name:List UInt8)(y:Ty)(a:Int)(h:Chk F n0 b S w)(hb:Bd S N)(hN:N≤1000000):Ret PP Wsb #[.pointer (some ⟨b,0,none⟩),Str name,tyV y,.int .i64 a] w fun r w'=>r = .int .i64 (declN S:Nat)∧Chk F n0 b (declS name y a S) w'∧GT mutR n0 w w':=by
 have hlt:=h.lt;have hvl:=hb.vl;have hnl:=hb.nl;have hlv:=hb.lv;have hdn:=Uae hb;have g:=GT.refl mutR n0 w;refine WK 92 [0,1,2,3] Ylb ?_;refine BM fun _ w6 ga _ g E=>?_;have h:=Ui h;refine Yr O (Ze (kq (Zi (Zi (Zk (Yr O (Ze (kq (Yo (Jn (fun (i:Nat) u1=>(i≤S.vars.length∧Chk F n0 b (failU (!(S.vars.take i).any (vrP S name)) a 6 S) u1)∧GT mutR n0 w6 u1) [(0,True,_),(1,True,_),(3,True,_),(6,True,_),(8,True,_)] (fun (i:Nat)=>[(9,True,.int .i64 i)]) (fun (i:Nat)=>S.vars.length-i) (0) ⟨⟨Nat.zero_le _,h⟩,GT.refl _ _ _⟩ (Za O (Za O (Za O (Za O (Za O (Za O (Zo _))))))) ?_))))))))));rintro i u1 ⟨hI1,gl1⟩;have g:=g.trans gl1;replace E:=E.gt gl1 rfl;obtain ⟨hi,hC⟩:=hI1;obtain ⟨T,hT⟩:∃ T,T=failU (!(S.vars.take i).any (vrP S name)) a 6 S:=⟨_,rfl⟩;rw [← hT] at hC;obtain ⟨q1,q2,q3,q4,q5,_⟩:=Uua (!(S.vars.take i).any (vrP S name)) a 6 S;rw [← hT] at q1 q2 q3 q4 q5;have hC0:=hC;obtain ⟨fv,sv,sn,h⟩:=hC;obtain ⟨pv,cv,rfl,hcap,hat⟩:=Yoe h.ov;have q6:T.vars.length≤N:=by rw [q1];exact hvl
 refine Zi (Zi (Zk (Zp O (Zp O (Qq O (Yf Yw O (Yp Yz O (h.B.at_ O) (Xha Yt O (Xna O O (Ze (kq (Wn O (fun h1=>?_) (fun h1=>?_)))))))))))));replace h1:i<T.vars.length:=by simp only [decide_eq_true_eq] at h1;omega
 have hiS:i<S.vars.length:=by rw [← q1];exact h1
 have hst:=Yhg hiS (vrP S name);have hvi:T.vars[i]=S.vars[i]:=by simp only [q1]
 have hp:vrP S name S.vars[i]=(decide ((T.vars[i].scope:Int)=(T.scope:Nat))&&decide (T.vars[i].name=name)):=by rw [hvi,q2,vrP];congr 1;rw [decide_eq_decide];omega
 refine Yb (kq (Zi (Yo (Zi (Yx [3,3,3,0,3,3,3,0,3,3,3,0,3,3,3,3,3,0,3,3,3,0,3,3,3] [true,true,true,true,true,true,true,true,true,true,true,true,true,true,true,true,true,true,true,true,true,true,true,true,true] [0,1,3,7,0,31,63,127,0,256,768,1792,4095,8191,16383,32767,65535,131071,16383,524287,1048575,2097151,16383,8388607,16777215] mix (by kernel_rfl) ?_)))));have gl1:=gl1.trans (GT.of_g (G.drew _));replace E:=E.dr;have h:=h.grow (G.drew _);refine Zp O (Qq O (Yf Yw O (Yp Yz O (h.B.at_ O) (Zp O (Zq O (fun _=>Xb Yt (Zd O) (Zd O) (fun _=>by omega) (fun _=>(hat i h1).1)) (Yf Jy O (Yp Yh O (((hat i h1).2.grow (G.drew _)).one (i:=5) O) (Zp O (Qq O (Yf Zha O (Yp Yh O (h.B.at_ O) (Zya O O (Zp O (Zj O O O (fun _=>Zl (Zd O)) (Zj O O O (fun _=>Jt (Zm O id)) (?_))))))))))))))));refine Zj O O O (fun _=>Zn Yw (Zm O id)) (Yk O O O (Zw Yz (Zm O id) (fun _=>h.B.at_ O)) (Zj O O O (fun _=>Zl (Zd O)) (Zj O O O (fun _=>Xb Yt (Zm O id) (Zm O id) (fun _=>by omega) (fun _=>(hat i h1).1)) (Zj O O O (fun _=>Zn Jx (Zm O id)) (Yk O O O (Zw Yg (Zm O id) (fun _=>((hat i h1).2.grow (G.drew _)).one (i:=0) O)) (Zj O O O (fun _=>Zl (Zd O)) (Zj O O O (fun _=>Xnc (Zm O id) (Zm O id)) (Zq O (fun _=>Yd (Zd O) (Zm O id)) (Ze (kq (Wn O (fun h2=>?_) (fun h2=>?_))))))))))));rw [h2] at hp;refine AU ?_;refine CL (Wi a 6 h.chk) ?_;rintro v47 w47 ⟨rfl,hC,g47⟩;refine ⟨nw1,?_⟩;have gl1:=gl1.trans g47;replace E:=E.gt g47 rfl;refine AU ?_;refine SK [9,0,1,3,6,8] ?_;refine Ze (fun a ha=>?_);exact ⟨i+1,ha,⟨⟨hiS,by rw [hst,Vja (by decide),hp,← hT];exact hC⟩,gl1⟩,by omega⟩;rw [h2] at hp
 refine Yb (kq (Zk (Zp O (Jta O O (by omega) (Yr O (Vf [(9,_,_),(0,_,_),(1,_,_),(3,_,_),(6,_,_),(8,_,_)] (Za O (Za O (Za O (Za O (Za O (Za O (Zo _))))))) (Ze (fun a ha=>?_))))))));exact ⟨i+1,ha,⟨⟨hiS,by rw [hst,Vja (by decide),hp,← hT];exact h.chk⟩,gl1⟩,by omega⟩;replace h1:i=S.vars.length:=by rw [← q1];simp only [decide_eq_false_iff_not] at h1;rw [← q1] at hi;omega
 subst h1;rw [List.take_length] at hT;have hlT:T.level<T.next.length:=by rw [q3,q4];exact hlv
 have hnT:T.next.length≤N+1:=by rw [q4];exact hnl
 obtain ⟨gs,cs,ls,rfl,hgs,hBs,hms,hls,htk,hre⟩:=Jcd h.on (by omega)
 have hel:ls[0+T.level*1]? = some (.int .i64 (declN S:Nat)):=by
  rw [Yig htk (by omega),show 0+T.level*1=T.level by omega,List.getElem?_map,q4,q3,List.getElem?_eq_getElem hlv,declN,List.getD_eq_getElem?_getD,List.getElem?_eq_getElem hlv];rfl
 refine Jl O (kq (Zi (Yx [3,3,3,0,3,3,3,0,3,0,3] [true,true,true,true,true,true,true,true,true,true,true] [0,1,3,7,0,16,48,112,255,511,1023] mix (by kernel_rfl) ?_)));have g:=gtd g;replace E:=E.dr;have h:=h.grow (G.drew _);have hBs:=hBs.grow (G.drew _);refine Zp O (Qq O (Yf Wt O (Yp Zdb O (h.B.at_ O) (Zp O (Qq O (Yf Ug O (Yp Yh O (h.B.at_ O) (Qpa Xfa O O (by omega) (Yp Yh O (hBs.at_ hel) (Yr O (Ze (kq (Zi (Yx [3,3,3,0,3,3,3,0,3,0,3,3,2] [true,true,true,true,true,true,true,true,true,true,true,true,true] [0,1,3,7,0,16,48,112,255,511,1023,2047,4095] mix (by kernel_rfl) ?_))))))))))))));have g:=gtd g;replace E:=E.dr;have h:=h.grow (G.drew _);have hBs:=hBs.grow (G.drew _);refine Zp O (Qq O (Yf Wt O (Yp Zdb O (h.B.at_ O) (Zp O (Qq O (Yf Ug O (Yp Yh O (h.B.at_ O) (Qpa Xfa O O (by omega) (Yp Yh O (hBs.at_ hel) (Jta O O (by omega) (Qpa Xfa O O (by omega) (Xi O Va (Zd O) (Zd O) O O hBs (Nat.ble_eq.mpr (by have:=hls;have:=hms;simp;omega)) O ?_))))))))))));intro wA hgA hzA BA;have g:=Wu g hgA hBs rfl hgs;replace E:=E.keepT hgA hBs rfl;replace BA:Blk wA gs Yrb (ls.set (0+T.level*1) (Value.int .i64 ((declN S:Nat)+1))):=by rw [Utg (by omega)];exact BA
 have hO:=hre _ _ BA (by rw [List.length_set];exact hls)
 have e5:(ls.set (0+T.level*1) (Value.int .i64 ((declN S:Nat)+1))).take (T.next.length*1)=(T.next.set T.level (declN S+1)).map fun (k:Nat)=>Value.int .i64 (k:Int):=by
  rw [take_set _ _ _ _ (by omega),htk,List.map_set,show 0+T.level*1=T.level by omega];rfl
 have h:=h.elt (S':={ T with next:=T.next.set T.level (declN S+1) }) hgA (by
  show wA.ownsRow n0 Yrb 1 _ (T.next.set T.level (declN S+1)).length _;rw [List.length_set];exact e5▸hO) rfl
 have q7:({ T with next:=T.next.set T.level (declN S+1) }:CSt).vars.length≤N:=q6;refine Ze (kq (Zi (Yx [3,3,3,3,0,3,0,3,3,3,3,0,3,3,3,0,3,1,2,3,3,2] [true,true,true,true,true,true,true,true,true,true,true,true,true,true,true,true,true,true,true,true,true,true] [0,0,2,6,14,0,0,0,0,256,768,1792,0,4096,12288,28672,65504,131040,262142,524287,1048575,2097151] mix (by kernel_rfl) ?_)));have g:=gtd g;replace E:=E.dr;have h:=h.grow (G.drew _);refine AU ?_;refine Jv Qu Xla (pqc O (pqc O (pqc O (pqc O (pqc O pq0))))) O O (CN fun _ _ N87 _ g E=>?_);have h:=h.grow (N87.g);refine Jg O Yt Qu O (by decide) (Zd O) h.ov (Zd O) O N87.blk.row O (by simp only [maxLen];omega) (by omega) (by have:=g.size;omega) ?_;intro pw cw w88 hov hg88 hat88;have g:=Jwf g h.ov rfl hg88;have hl1:(T.vars++[(⟨name,y,declN S,T.level,T.scope⟩:Vr)]).length=T.vars.length+1:=by simp
 have hf1:(T.vars++[(⟨name,y,declN S,T.level,T.scope⟩:Vr)]).flatMap vrCells=T.vars.flatMap vrCells++vrCells (⟨name,y,declN S,T.level,T.scope⟩:Vr):=by simp
 refine AU ?_;refine Xi O Vo (Zd O) (Zd O) O O (h.rowv hg88).1 O O ?_;intro wC hgC hzC BC;have g:=Wu g hgC (h.rowv hg88).1 rfl h.hb
 have h:=h.setv (S':={ T with next:=T.next.set T.level (declN S+1),vars:=T.vars++[(⟨name,y,declN S,T.level,T.scope⟩:Vr)] }) hg88 (by
  show w88.ownsRow n0 Xq 6 (.slice pw (T.vars.length+1) cw) (T.vars++[(⟨name,y,declN S,T.level,T.scope⟩:Vr)]).length ((T.vars++[(⟨name,y,declN S,T.level,T.scope⟩:Vr)]).flatMap vrCells);rw [hl1,hf1];exact hov) hgC BC rfl
 refine RTN ?_;refine ⟨rfl,?_,g⟩
 have e:declS name y a S = { T with next:=T.next.set T.level (declN S+1),vars:=T.vars++[(⟨name,y,declN S,T.level,T.scope⟩:Vr)] }:=by
  unfold declS;rw [show failU (!dupV S name) a 6 S=T from hT.symm];dsimp only;rw [q1,q2,q3,q4]
 rw [e];exact h.chk
theorem Whc{F:Nd}{n0 b:Nat}{S:CSt}{w:World}{N:Nat}(H:FSh F)(t:Nd)(p:Option Addr)(c:Nat)(h:Chk F n0 b S w)(hb:Bd S N)(hN:N≤1000000):Ret PP Uob #[.pointer (some ⟨b,0,none⟩),ndV t (.slice p t.kids.length c)] w fun r w'=>r = .tuple #[ndV (lookR F S t).1 (.slice none 0 0),.bool (lookR F S t).2]∧G w w':=by
 obtain ⟨fv,sv,sn,h⟩:=h;have hlt:=h.lt;have hvl:=hb.vl;have hnl:=hb.nl;have hlv:=hb.lv;obtain ⟨pv,cv,rfl,hcap,hat⟩:=Yoe h.ov;have g:=G.refl w;refine Zca (m:=112) Xgb O O [(0,True,_),(1,True,_)] (Za O (Za O (Zo _))) ?_;refine Zi (Zk (BM fun _ _ _ _ g E=>?_));refine AN fun _ _ _ l4 g E=>?_;refine Yr O (Ze (kq (Zi (Zk (Ve Zh O O E.g1.row (CL (Vq t _ _ _) ?_))))));rintro _ _ ⟨rfl,ga⟩;refine RC fun g E=>?_;refine AN fun b6 _ _ l6 g E=>?_;refine AS fun wS1 _ _ g E=>?_;refine Ze (kq (Zi (Zi (Zk (Zp O (Qq O (Yf Yw O (Yp Yz O ((h.B.grow g).at_ O) (Xha Yt O (Zq O (fun _=>Yfb (Zd O) Xg (fun _=>by omega)) (Yr O (Ze (kq (Yo (Jn (fun (j:Nat) u1=>(j≤S.vars.length∧Jsb S.vars t.text=Jsb (S.vars.take j) t.text)∧G wS1 u1) [(0,True,_),(3,True,_),(4,True,_),(6,True,_)] (fun (j:Nat)=>[(7,True,.int .i64 ((j:Int)-1))]) (fun (j:Nat)=>j) (S.vars.length) ⟨⟨Nat.le_refl _,by rw [List.take_length]⟩,G.refl _⟩ (Za O (Za O (Za O (Za O (Za O (Zo _)))))) ?_)))))))))))))));rintro j u1 ⟨hI1,gl1⟩;have g:=g.trans gl1;replace E:=E.grow gl1;obtain ⟨hj,hF⟩:=hI1;refine Zi (Zi (Zk (Zp O (Xwe O O (Ze (kq (Wn O (fun h1=>?_) (fun h1=>?_))))))));replace h1:1≤j:=by simp only [decide_eq_true_eq] at h1;omega
 obtain ⟨k,rfl⟩:∃ k,j=k+1:=⟨j-1,by omega⟩;have e:(((k+1:Nat):Int)-1).toNat=k:=by omega
 have hk:k<S.vars.length:=hj;have hvk:=hb.vs _ (List.getElem_mem hk);rw [Zlf hk] at hF;refine Yb (kq (Zi (Yo (Zi (Zk (Zp O (Qq O (Yf Yw O (Yp Yz O ((h.B.grow g).at_ O) (Zp O (Zq O (fun _=>Xb Yt (Zd O) (Zd O) (fun _=>by omega) (fun _=>(hat k hk).1)) (Ve Xaa O O (by rw [e];exact (hat k hk).2.grow g) (AN fun _ _ ga _ g E=>?_)))))))))))));have l8_gl1:=ga.ge gl1;have gl1:=gl1.trans (ga.g);refine AS fun _ ga _ g E=>?_;first|replace gl1:=Ya gl1 ga (by omega)|clear gl1|skip
 refine Ze (kq (Zi (Zk (Yf Jx O (Yp Yg O (E.g0.at_ O) (Yf Yn O (Yp Yg O (E.g3.at_ O) (Jvd O O (Ze (kq (Wn O (fun h2=>?_) (fun h2=>?_))))))))))));rw [h2,cond_true] at hF;refine Zi (Xu (rowR (some b6)) [3,0,3,3,3,0,3,0,3,3,0,3,1,3,1,3,1,3,1] [0,1,0,4,12,28,0,64,252,0,512,0,2048,6147,14339,31231,63999,131071,262143] mix (by kernel_rfl) [0,1,2,3,4,5,6,7,8,9,10,11,12,13,14,15,16,17,18] O ?_);have g:=gdr g;have gl1:=gl1.trans (G.drew _);replace E:=E.dr;refine Zx 0 O O (fun _=>Zn Ysa (Zd O)) (Wh 1 O O (fun w1 hx=>Zw Yh (Zd O) (fun _=>(E.g0.keep hx (fun h=>E.ne 0 1 O O O (Option.some.inj h))).at_ O)) (Zx 2 O O (fun _=>Zl (Zd O)) (Zx 3 O O (fun _=>Jt (Zd O)) (Zx 4 O O (fun _=>Zn Ug (Zd O)) (Wh 5 O O (fun w1 hx=>Zw Yh (Zd O) (fun _=>((h.B.grow g).keep hx (by intro q;first|(injection q with q;omega)|cases q)).at_ O)) (Zx 6 O O (fun _=>Zn Yta (Zd O)) (Wh 7 O O (fun w1 hx=>Zw Yh (Zd O) (fun _=>(E.g0.keep hx (fun h=>E.ne 0 1 O O O (Option.some.inj h))).at_ O)) (Zx 8 O O (fun _=>Yfb (Zd O) (Zd O) (fun _=>by omega)) (Zx 9 O O (fun _=>Zn Yra (Zd O)) (Wh 10 O O (fun w1 hx=>Zy Xd (Zd O) O (fun _=>(E.g0.keep hx (fun h=>E.ne 0 1 O O O (Option.some.inj h))).row.part 1 2)) (Zx 11 O O (fun _=>Zn Qh (Zd O)) (Zu 12 O O ?_))))))))))));refine Zv (L':=[13,14,15,16,17,18]) [3,0,3,3,3,0,3,0,3,3,0,3,2,3,2,3,2,3,2] O O O ?_;refine AS fun _ hgS3 _ g E=>?_;first|replace gl1:=Ya gl1 hgS3 (by omega)|clear gl1|skip
 refine Yj (hgS3) ?_;refine Zx 13 O O (fun _=>Zn Qg (Zd O)) (Zu 14 O O ?_);refine Zv (L':=[15,16,17,18]) [3,0,3,3,3,0,3,0,3,3,0,3,2,3,2,3,2,3,2] O O O ?_;refine AS fun _ hgS4 _ g E=>?_;first|replace gl1:=Ya gl1 hgS4 (by omega)|clear gl1|skip
 refine Yj (hgS4) ?_;refine Zx 15 O O (fun _=>Zn Qba (Zd O)) (Zu 16 O O ?_);refine Zv (L':=[17,18]) [3,0,3,3,3,0,3,0,3,3,0,3,2,3,2,3,2,3,2] O O O ?_;refine AS fun _ hgS5 _ g E=>?_;first|replace gl1:=Ya gl1 hgS5 (by omega)|clear gl1|skip
 refine Yj (hgS5) ?_;refine Zx 17 O O (fun _=>Zn Wk (Zd O)) (Zu 18 O O ?_);refine Zv (L':=[]) [3,0,3,3,3,0,3,0,3,3,0,3,2,3,2,3,2,3,2] O O O ?_;refine Xi O We (Zd O) (Zd O) O O E.g1 O O ?_;intro wS6 hgS6 _ BS;replace E:=E.s1 hgS6 BS;have g:=Ya g hgS6 (by omega);first|replace gl1:=Ya gl1 hgS6 (by omega)|clear gl1|skip
 refine Yj (hgS6) ?_;refine Upa [(0,_,_),(3,_,_),(4,_,_),(6,_,_),(7,_,_)] (Za O (Za O (Za O (Za O (Za O (Zo _)))))) (Qp (kq (Zi (Zk (Ve Zh O O E.g1.row (AS fun _ ga _ g E=>?_))))));first|replace gl1:=Ya gl1 ga (by omega)|clear gl1|skip
 refine Yr O (Ze (kq (Xe (Ut (rs:=[.cell 4 26,.tmp 5]) (vs:=[_,_]) O O (Qy O Zh O (E.g2.row) (Qm O (Wy))) O ?_))));refine ⟨?_,g⟩;unfold lookR;rw [hF];rfl;rw [h2,cond_false] at hF;refine Yb (kq (Zk (Zp O (Zq O (fun _=>Yfb (Zd O) Xg (fun _=>by omega)) (Yr O (Vf [(7,_,_),(0,_,_),(3,_,_),(4,_,_),(6,_,_)] (Za O (Za O (Za O (Za O (Za O (Zo _)))))) (Ze (fun a ha=>?_))))))));exact ⟨k,by rw [show ((k+1:Nat):Int)-1-1=(k:Int)-1 by omega] at ha;exact ha,⟨⟨by omega,hF⟩,gl1⟩,by omega⟩;replace h1:j=0:=by simp only [decide_eq_false_iff_not] at h1;omega
 subst h1;replace hF:Jsb S.vars t.text=none:=hF;refine Jl O (kq (Zi (Zi (Xu (rowR none) [3,3,3,0,3,0,1,3,3,3,1,2,3] [0,1,3,7,0,16,63,127,255,255,0,1535,4095] mix (by kernel_rfl) [0,1,2,3,4,5,6,7,8,9,10,11,12] O ?_))));have g:=gdr g;have gl1:=gl1.trans (G.drew _);replace E:=E.dr;refine Zx 0 O O (fun _=>Zl (Zd O)) (Zx 1 O O (fun _=>Jt (Zd O)) (Zx 2 O O (fun _=>Zn Wg (Zd O)) (Wh 3 O O (fun w1 hx=>Zy Zh (Zd O) O (fun _=>((h.B.grow g).keep hx (by intro q;first|(injection q with q;omega)|cases q)).row.part 0 9)) (Zx 4 O O (fun _=>Zn Yn (Zd O)) (Wh 5 O O (fun w1 hx=>Zw Yg (Zd O) (fun _=>(E.g2.keep hx (fun h=>nomatch h)).at_ O)) (Uza 6 10 O O ?_ ?_))))));refine Zv (L':=[7,8,9,10,11,12]) [3,3,3,0,3,0,1,3,3,3,1,2,3] rfl rfl rfl ?_;refine CL (Yqa F fv _ _ 6 t.text (h.kF.grow g) h.hF) ?_;rintro v60 w60 ⟨⟨p60,c60,rfl,hk60⟩,g60⟩;refine ⟨fun _=>g60,?_⟩;have g:=g.trans g60;have gl1:=gl1.trans (g60);replace E:=E.grow g60;refine Yj ((g60).only _) ?_;refine Zx 7 O O (fun _=>Zl (Zd O)) (Zx 8 O O (fun _=>Xs (Zd O) O) (Zx 9 O O (fun _=>Xs (Zd O) O) (Zu 10 O O ?_)));refine Zv (L':=[11,12]) [3,3,3,0,3,0,1,3,3,3,1,2,3] O O O ?_;refine AN fun _ _ N9 l9 g E=>?_;have l9_gl1:=N9.ge gl1;have gl1:=gl1.trans (N9.g);have hk60:=hk60.grow (N9.g);refine Yj ((N9.g).only _) ?_;refine Zu 11 O O ?_;refine Ye (L':=[12]) [3,3,3,0,3,0,1,3,3,3,1,2,3] O O O O ?_;refine AS fun _ ga _ g E=>?_;first|replace gl1:=Ya gl1 ga (by omega)|clear gl1|skip
 have hk60:=Ud hk60;refine Yy ?_;refine Zx 12 O O (fun _=>Yu (Zd O)) (Upa [(0,_,_),(3,_,_),(4,_,_),(6,_,_),(9,_,_),(10,_,_),(53,_,_),(54,_,_),(55,_,_),(56,_,_),(57,_,_),(58,_,_),(59,_,_),(60,_,_),(61,_,_),(62,_,_)] (Za O (Za O (Za O (Za O (Za O (Za O (Za O (Za O (Za O (Za O (Za O (Za O (Za O (Za O (Za O (Za O (Zo _))))))))))))))))) (Qp (kq (Zi (Zk (Zp O (Xwe O O (Ze (kq (Wn O (fun h3=>?_) (fun h3=>?_)))))))))));replace h3:0≤(findD F 6 t.text).2:=by simp only [decide_eq_true_eq] at h3;omega
 have hl6:=H.l6 h3;refine Zi (Zk (Zp O (Yf Qh O (AS fun _ ga _ g E=>?_))));first|replace gl1:=Ya gl1 ga (by omega)|clear gl1|skip
 have hk60:=Ud hk60;refine Yf Qg O (AS fun _ ga _ g E=>?_);first|replace gl1:=Ya gl1 ga (by omega)|clear gl1|skip
 have hk60:=Ud hk60;refine Ze (kq (Zi (Zk (?_))));obtain ⟨e0,p1,c1,hcell,hkid⟩:=Yl hk60 (i:=0) hl6;refine Yf Zg O (Yp Zf O (E.g0.at_ O) (Ji Zc O O (by omega) e0 (Ve Zh O O hcell (Vg O (Yi Yxb Vc (aqc O aq0) O) (Ytb (Zb (findD F 6 t.text).1 0) _ _ _) (fun w73 g73=>?_)))));have g:=g.trans g73;replace E:=E.grow g73;refine Zp O (Usc O O (Usc O O (Yf Wk O (Xi O We (Zd O) (Zd O) O O E.g1 O O ?_))));intro wS11 hgS11 _ BS;replace E:=E.s1 hgS11 BS;have g:=Ya g hgS11 (by omega);first|replace gl1:=Ya gl1 hgS11 (by omega)|clear gl1|skip
 refine Ze (kq (Zi (Zk (Ve Zh O O E.g1.row (AS fun _ ga _ g E=>?_)))));first|replace gl1:=Ya gl1 ga (by omega)|clear gl1|skip
 refine Yr O (Ze (kq (Xe (Ut (rs:=[.cell 4 26,.tmp 5]) (vs:=[_,_]) O O (Qy O Zh O (E.g2.row) (Qm O (Wy))) O ?_))));refine ⟨?_,g⟩;unfold lookR;rw [hF];dsimp only;rw [Weh h3];rfl;replace h3:¬ 0≤(findD F 6 t.text).2:=by simp only [decide_eq_false_iff_not] at h3;omega
 refine Yb (kq (Zi (Zi (Xu (rowR none) [3,3,3,0,3,0,1,3,3,3,1,2,3] [0,1,3,7,0,16,63,127,255,255,0,1535,4095] mix (by kernel_rfl) [0,1,2,3,4,5,6,7,8,9,10,11,12] O ?_))));have g:=gdr g;have gl1:=gl1.trans (G.drew _);replace E:=E.dr;refine Zx 0 O O (fun _=>Zl (Zd O)) (Zx 1 O O (fun _=>Jt (Zd O)) (Zx 2 O O (fun _=>Zn Wg (Zd O)) (Wh 3 O O (fun w1 hx=>Zy Zh (Zd O) O (fun _=>((h.B.grow g).keep hx (by intro q;first|(injection q with q;omega)|cases q)).row.part 0 9)) (Zx 4 O O (fun _=>Zn Yn (Zd O)) (Wh 5 O O (fun w1 hx=>Zw Yg (Zd O) (fun _=>(E.g3.keep hx (fun h=>nomatch h)).at_ O)) (Uza 6 10 O O ?_ ?_))))));refine Zv (L':=[7,8,9,10,11,12]) [3,3,3,0,3,0,1,3,3,3,1,2,3] rfl rfl rfl ?_;refine CL (Yqa F fv _ _ 4 t.text (h.kF.grow g) h.hF) ?_;rintro v85 w85 ⟨⟨p85,c85,rfl,hk85⟩,g85⟩;refine ⟨fun _=>g85,?_⟩;have g:=g.trans g85;have gl1:=gl1.trans (g85);replace E:=E.grow g85;refine Yj ((g85).only _) ?_;refine Zx 7 O O (fun _=>Zl (Zd O)) (Zx 8 O O (fun _=>Xs (Zd O) O) (Zx 9 O O (fun _=>Xs (Zd O) O) (Zu 10 O O ?_)));refine Zv (L':=[11,12]) [3,3,3,0,3,0,1,3,3,3,1,2,3] O O O ?_;refine AN fun _ _ N11 l11 g E=>?_;have l11_gl1:=N11.ge gl1;have gl1:=gl1.trans (N11.g);have hk85:=hk85.grow (N11.g);refine Yj ((N11.g).only _) ?_;refine Zu 11 O O ?_;refine Ye (L':=[12]) [3,3,3,0,3,0,1,3,3,3,1,2,3] O O O O ?_;refine AS fun _ ga _ g E=>?_;first|replace gl1:=Ya gl1 ga (by omega)|clear gl1|skip
 have hk85:=Ud hk85;refine Yy ?_;refine Zx 12 O O (fun _=>Yu (Zd O)) (Upa [(0,_,_),(3,_,_),(4,_,_),(6,_,_),(9,_,_),(10,_,_),(11,_,_),(12,_,_),(53,_,_),(54,_,_),(55,_,_),(56,_,_),(57,_,_),(58,_,_),(59,_,_),(60,_,_),(61,_,_),(62,_,_),(63,_,_),(64,_,_),(78,_,_),(79,_,_),(80,_,_),(81,_,_),(82,_,_),(83,_,_),(84,_,_),(85,_,_),(86,_,_),(87,_,_)] (Za O (Za O (Za O (Za O (Za O (Za O (Za O (Za O (Za O (Za O (Za O (Za O (Za O (Za O (Za O (Za O (Za O (Za O (Za O (Za O (Za O (Za O (Za O (Za O (Za O (Za O (Za O (Za O (Za O (Za O (Zo _))))))))))))))))))))))))))))))) (Qp (kq (Zi (Zk (Zp O (Xwe O O (Ze (kq (Wn O (fun h4=>?_) (fun h4=>?_)))))))))));replace h4:0≤(findD F 4 t.text).2:=by simp only [decide_eq_true_eq] at h4;omega
 have hl4:=H.l4 h4;refine Zi (Zk (Zp O (Yf Qh O (AS fun _ ga _ g E=>?_))));first|replace gl1:=Ya gl1 ga (by omega)|clear gl1|skip
 have hk85:=Ud hk85;refine Yf Qg O (AS fun _ ga _ g E=>?_);first|replace gl1:=Ya gl1 ga (by omega)|clear gl1|skip
 have hk85:=Ud hk85;refine Ze (kq (Zi (Zi (Zk (?_)))));obtain ⟨e0,p1,c1,hcell,hkid⟩:=Yl hk85 (i:=0) (by omega);obtain ⟨e1,p2,c2,hcell1,hkid1⟩:=Yl hk85 (i:=1) (by omega);refine Yf Zg O (Yp Zf O (E.g0.at_ O) (Ji Zc O O (by omega) e0 (Yf Zg O (Yp Zf O (hcell.one (i:=4) O) (Xha Zc O (Zya O O (Zp O (Zj O O O (fun _=>Zn Zg (Zd O)) (Yk O O O (Zw Zf (Zm O id) (fun _=>E.g0.at_ O)) (Zj O O O (fun _=>Xb Zc (Zm O id) Xg (fun _=>by omega) (fun _=>e1)) (Zj O O O (fun _=>Zn Xl (Zm O id)) (Yk O O O (Zw Yh (Zm O id) (fun _=>hcell1.one (i:=0) O)) (Zj O O O (fun _=>Zpa (Zm O id) Xg) (Zq O (fun _=>Yd (Zd O) (Zm O id)) (Ze (kq (?_)))))))))))))))));refine Wn O (fun h5=>?_) (fun h5=>?_);(try simp only [bsimp] at h5);refine Zk (Jv Wl Vi (pqc O pq0) O O (Yf Wk O (Xi O We (Zd O) (Zd O) O O E.g2 O O ?_)));intro wS16 hgS16 _ BS;replace E:=E.s2 hgS16 BS;have g:=Ya g hgS16 (by omega);first|replace gl1:=Ya gl1 hgS16 (by omega)|clear gl1|skip
 refine Ze (kq (Zi (Zk (Ve Zh O O E.g2.row (AS fun _ ga _ g E=>?_)))));first|replace gl1:=Ya gl1 ga (by omega)|clear gl1|skip
 refine Yr O (Ze (kq (Xe (Ut (rs:=[.cell 4 26,.tmp 5]) (vs:=[_,_]) O O (Qy O Zh O (E.g3.row) (Qm O (Wy))) O ?_))));refine ⟨?_,g⟩;unfold lookR;rw [hF];dsimp only;rw [Wdh h3,Weh h4,Vuc,h5];rfl;refine Yb (kq (Zi (Zk (Ve Zh O O E.g2.row (AS fun _ ga _ g E=>?_)))));first|replace gl1:=Ya gl1 ga (by omega)|clear gl1|skip
 refine Yr O (Ze (kq (Xe (Ut (rs:=[.cell 4 26,.tmp 5]) (vs:=[_,_]) O O (Qy O Zh O (E.g3.row) (Qm O (Wy))) O ?_))));refine ⟨?_,g⟩;unfold lookR;rw [hF];dsimp only;rw [Wdh h3,Weh h4,Vuc,h5];rfl;replace h4:¬ 0≤(findD F 4 t.text).2:=by simp only [decide_eq_false_iff_not] at h4;omega
 refine Yb (kq (Zi (Zk (Ve Zh O O E.g2.row (AS fun _ ga _ g E=>?_)))));first|replace gl1:=Ya gl1 ga (by omega)|clear gl1|skip
 refine Yr O (Ze (kq (Xe (Ut (rs:=[.cell 4 26,.tmp 5]) (vs:=[_,_]) O O (Qy O Zh O (E.g3.row) (Qm O (Wy))) O ?_))));refine ⟨?_,g⟩;unfold lookR;rw [hF];dsimp only;rw [Wdh h3,Wdh h4];rfl;refine Zv (L':=[6,7,8,9,11,12]) [3,3,3,0,3,0,1,3,3,3,1,2,3] rfl rfl rfl ?_;refine AN fun _ _ N11 l11 g E=>?_;have l11_gl1:=N11.ge gl1;have gl1:=gl1.trans (N11.g);refine Yj ((N11.g).only _) ?_;refine Zu 6 O O ?_;refine Zv (L':=[7,8,9,11,12]) [3,3,3,0,3,0,1,3,3,3,1,2,3] O O O ?_;refine CL (Yqa F fv _ _ 4 t.text (h.kF.grow g) h.hF) ?_;rintro v85 w85 ⟨⟨p85,c85,rfl,hk85⟩,g85⟩;refine ⟨fun _=>g85,?_⟩;have g:=g.trans g85;have gl1:=gl1.trans (g85);replace E:=E.grow g85;refine Yj ((g85).only _) ?_;refine Zx 7 O O (fun _=>Zl (Zd O)) (Zx 8 O O (fun _=>Xs (Zd O) O) (Zx 9 O O (fun _=>Xs (Zd O) O) (Zu 11 O O ?_)));refine Ye (L':=[12]) [3,3,3,0,3,0,1,3,3,3,1,2,3] O O O O ?_;refine AS fun _ ga _ g E=>?_;first|replace gl1:=Ya gl1 ga (by omega)|clear gl1|skip
 have hk85:=Ud hk85;refine Yy ?_;refine Zx 12 O O (fun _=>Yu (Zd O)) (Upa [(0,_,_),(3,_,_),(4,_,_),(6,_,_),(9,_,_),(10,_,_),(11,_,_),(12,_,_),(53,_,_),(54,_,_),(55,_,_),(56,_,_),(57,_,_),(58,_,_),(59,_,_),(60,_,_),(61,_,_),(62,_,_),(63,_,_),(64,_,_),(78,_,_),(79,_,_),(80,_,_),(81,_,_),(82,_,_),(83,_,_),(84,_,_),(85,_,_),(86,_,_),(87,_,_)] (Za O (Za O (Za O (Za O (Za O (Za O (Za O (Za O (Za O (Za O (Za O (Za O (Za O (Za O (Za O (Za O (Za O (Za O (Za O (Za O (Za O (Za O (Za O (Za O (Za O (Za O (Za O (Za O (Za O (Za O (Zo _))))))))))))))))))))))))))))))) (Qp (kq (Zi (Zk (Zp O (Xwe O O (Ze (kq (Wn O (fun h4=>?_) (fun h4=>?_)))))))))));replace h4:0≤(findD F 4 t.text).2:=by simp only [decide_eq_true_eq] at h4;omega
 have hl4:=H.l4 h4;refine Zi (Zk (Zp O (Yf Qh O (AS fun _ ga _ g E=>?_))));first|replace gl1:=Ya gl1 ga (by omega)|clear gl1|skip
 have hk85:=Ud hk85;refine Yf Qg O (AS fun _ ga _ g E=>?_);first|replace gl1:=Ya gl1 ga (by omega)|clear gl1|skip
 have hk85:=Ud hk85;refine Ze (kq (Zi (Zi (Zk (?_)))));obtain ⟨e0,p1,c1,hcell,hkid⟩:=Yl hk85 (i:=0) (by omega);obtain ⟨e1,p2,c2,hcell1,hkid1⟩:=Yl hk85 (i:=1) (by omega);refine Yf Zg O (Yp Zf O (E.g0.at_ O) (Ji Zc O O (by omega) e0 (Yf Zg O (Yp Zf O (hcell.one (i:=4) O) (Xha Zc O (Zya O O (Zp O (Zj O O O (fun _=>Zn Zg (Zd O)) (Yk O O O (Zw Zf (Zm O id) (fun _=>E.g0.at_ O)) (Zj O O O (fun _=>Xb Zc (Zm O id) Xg (fun _=>by omega) (fun _=>e1)) (Zj O O O (fun _=>Zn Xl (Zm O id)) (Yk O O O (Zw Yh (Zm O id) (fun _=>hcell1.one (i:=0) O)) (Zj O O O (fun _=>Zpa (Zm O id) Xg) (Zq O (fun _=>Yd (Zd O) (Zm O id)) (Ze (kq (?_)))))))))))))))));refine Wn O (fun h5=>?_) (fun h5=>?_);(try simp only [bsimp] at h5);refine Zk (Jv Wl Vi (pqc O pq0) O O (Yf Wk O (Xi O We (Zd O) (Zd O) O O E.g2 O O ?_)));intro wS16 hgS16 _ BS;replace E:=E.s2 hgS16 BS;have g:=Ya g hgS16 (by omega);first|replace gl1:=Ya gl1 hgS16 (by omega)|clear gl1|skip
 refine Ze (kq (Zi (Zk (Ve Zh O O E.g2.row (AS fun _ ga _ g E=>?_)))));first|replace gl1:=Ya gl1 ga (by omega)|clear gl1|skip
 refine Yr O (Ze (kq (Xe (Ut (rs:=[.cell 4 26,.tmp 5]) (vs:=[_,_]) O O (Qy O Zh O (E.g3.row) (Qm O (Wy))) O ?_))));refine ⟨?_,g⟩;unfold lookR;rw [hF];dsimp only;rw [Wdh h3,Weh h4,Vuc,h5];rfl;refine Yb (kq (Zi (Zk (Ve Zh O O E.g2.row (AS fun _ ga _ g E=>?_)))));first|replace gl1:=Ya gl1 ga (by omega)|clear gl1|skip
 refine Yr O (Ze (kq (Xe (Ut (rs:=[.cell 4 26,.tmp 5]) (vs:=[_,_]) O O (Qy O Zh O (E.g3.row) (Qm O (Wy))) O ?_))));refine ⟨?_,g⟩;unfold lookR;rw [hF];dsimp only;rw [Wdh h3,Weh h4,Vuc,h5];rfl;replace h4:¬ 0≤(findD F 4 t.text).2:=by simp only [decide_eq_false_iff_not] at h4;omega
 refine Yb (kq (Zi (Zk (Ve Zh O O E.g2.row (AS fun _ ga _ g E=>?_)))));first|replace gl1:=Ya gl1 ga (by omega)|clear gl1|skip
 refine Yr O (Ze (kq (Xe (Ut (rs:=[.cell 4 26,.tmp 5]) (vs:=[_,_]) O O (Qy O Zh O (E.g3.row) (Qm O (Wy))) O ?_))));refine ⟨?_,g⟩;unfold lookR;rw [hF];dsimp only;rw [Wdh h3,Wdh h4];rfl;refine Zv (L':=[6,7,8,9,11,12]) [3,3,3,0,3,0,1,3,3,3,1,2,3] rfl rfl rfl ?_;refine AN fun _ _ N9 _ g E=>?_;have l9_gl1:=N9.ge gl1;have gl1:=gl1.trans (N9.g);refine Yj ((N9.g).only _) ?_;refine Zu 6 O O ?_;refine Zv (L':=[7,8,9,11,12]) [3,3,3,0,3,0,1,3,3,3,1,2,3] O O O ?_;refine CL (Yqa F fv _ _ 6 t.text (h.kF.grow g) h.hF) ?_;rintro v60 w60 ⟨⟨p60,c60,rfl,hk60⟩,g60⟩;refine ⟨fun _=>g60,?_⟩;have g:=g.trans g60;have gl1:=gl1.trans (g60);replace E:=E.grow g60;refine Yj ((g60).only _) ?_;refine Zx 7 O O (fun _=>Zl (Zd O)) (Zx 8 O O (fun _=>Xs (Zd O) O) (Zx 9 O O (fun _=>Xs (Zd O) O) (Zu 11 O O ?_)));refine Ye (L':=[12]) [3,3,3,0,3,0,1,3,3,3,1,2,3] O O O O ?_;refine AS fun _ ga _ g E=>?_;first|replace gl1:=Ya gl1 ga (by omega)|clear gl1|skip
 have hk60:=Ud hk60;refine Yy ?_;refine Zx 12 O O (fun _=>Yu (Zd O)) (Upa [(0,_,_),(3,_,_),(4,_,_),(6,_,_),(9,_,_),(10,_,_),(53,_,_),(54,_,_),(55,_,_),(56,_,_),(57,_,_),(58,_,_),(59,_,_),(60,_,_),(61,_,_),(62,_,_)] (Za O (Za O (Za O (Za O (Za O (Za O (Za O (Za O (Za O (Za O (Za O (Za O (Za O (Za O (Za O (Za O (Zo _))))))))))))))))) (Qp (kq (Zi (Zk (Zp O (Xwe O O (Ze (kq (Wn O (fun h3=>?_) (fun h3=>?_)))))))))));replace h3:0≤(findD F 6 t.text).2:=by simp only [decide_eq_true_eq] at h3;omega
 have hl6:=H.l6 h3;refine Zi (Zk (Zp O (Yf Qh O (AS fun _ ga _ g E=>?_))));first|replace gl1:=Ya gl1 ga (by omega)|clear gl1|skip
 have hk60:=Ud hk60;refine Yf Qg O (AS fun _ ga _ g E=>?_);first|replace gl1:=Ya gl1 ga (by omega)|clear gl1|skip
 have hk60:=Ud hk60;refine Ze (kq (Zi (Zk (?_))));obtain ⟨e0,p1,c1,hcell,hkid⟩:=Yl hk60 (i:=0) hl6;refine Yf Zg O (Yp Zf O (E.g0.at_ O) (Ji Zc O O (by omega) e0 (Ve Zh O O hcell (Vg O (Yi Yxb Vc (aqc O aq0) O) (Ytb (Zb (findD F 6 t.text).1 0) _ _ _) (fun w73 g73=>?_)))));have g:=g.trans g73;replace E:=E.grow g73;refine Zp O (Usc O O (Usc O O (Yf Wk O (Xi O We (Zd O) (Zd O) O O E.g1 O O ?_))));intro wS11 hgS11 _ BS;replace E:=E.s1 hgS11 BS;have g:=Ya g hgS11 (by omega);first|replace gl1:=Ya gl1 hgS11 (by omega)|clear gl1|skip
 refine Ze (kq (Zi (Zk (Ve Zh O O E.g1.row (AS fun _ ga _ g E=>?_)))));first|replace gl1:=Ya gl1 ga (by omega)|clear gl1|skip
 refine Yr O (Ze (kq (Xe (Ut (rs:=[.cell 4 26,.tmp 5]) (vs:=[_,_]) O O (Qy O Zh O (E.g2.row) (Qm O (Wy))) O ?_))));refine ⟨?_,g⟩;unfold lookR;rw [hF];dsimp only;rw [Weh h3];rfl;replace h3:¬ 0≤(findD F 6 t.text).2:=by simp only [decide_eq_false_iff_not] at h3;omega
 refine Yb (kq (Zi (Zi (Xu (rowR none) [3,3,3,0,3,0,1,3,3,3,1,2,3] [0,1,3,7,0,16,63,127,255,255,0,1535,4095] mix (by kernel_rfl) [0,1,2,3,4,5,6,7,8,9,10,11,12] O ?_))));have g:=gdr g;have gl1:=gl1.trans (G.drew _);replace E:=E.dr;refine Zx 0 O O (fun _=>Zl (Zd O)) (Zx 1 O O (fun _=>Jt (Zd O)) (Zx 2 O O (fun _=>Zn Wg (Zd O)) (Wh 3 O O (fun w1 hx=>Zy Zh (Zd O) O (fun _=>((h.B.grow g).keep hx (by intro q;first|(injection q with q;omega)|cases q)).row.part 0 9)) (Zx 4 O O (fun _=>Zn Yn (Zd O)) (Wh 5 O O (fun w1 hx=>Zw Yg (Zd O) (fun _=>(E.g3.keep hx (fun h=>nomatch h)).at_ O)) (Uza 6 10 O O ?_ ?_))))));refine Zv (L':=[7,8,9,10,11,12]) [3,3,3,0,3,0,1,3,3,3,1,2,3] rfl rfl rfl ?_;refine CL (Yqa F fv _ _ 4 t.text (h.kF.grow g) h.hF) ?_;rintro v85 w85 ⟨⟨p85,c85,rfl,hk85⟩,g85⟩;refine ⟨fun _=>g85,?_⟩;have g:=g.trans g85;have gl1:=gl1.trans (g85);replace E:=E.grow g85;refine Yj ((g85).only _) ?_;refine Zx 7 O O (fun _=>Zl (Zd O)) (Zx 8 O O (fun _=>Xs (Zd O) O) (Zx 9 O O (fun _=>Xs (Zd O) O) (Zu 10 O O ?_)));refine Zv (L':=[11,12]) [3,3,3,0,3,0,1,3,3,3,1,2,3] O O O ?_;refine AN fun _ _ N11 l11 g E=>?_;have l11_gl1:=N11.ge gl1;have gl1:=gl1.trans (N11.g);have hk85:=hk85.grow (N11.g);refine Yj ((N11.g).only _) ?_;refine Zu 11 O O ?_;refine Ye (L':=[12]) [3,3,3,0,3,0,1,3,3,3,1,2,3] O O O O ?_;refine AS fun _ ga _ g E=>?_;first|replace gl1:=Ya gl1 ga (by omega)|clear gl1|skip
 have hk85:=Ud hk85;refine Yy ?_;refine Zx 12 O O (fun _=>Yu (Zd O)) (Upa [(0,_,_),(3,_,_),(4,_,_),(6,_,_),(9,_,_),(10,_,_),(11,_,_),(12,_,_),(53,_,_),(54,_,_),(55,_,_),(56,_,_),(57,_,_),(58,_,_),(59,_,_),(60,_,_),(61,_,_),(62,_,_),(63,_,_),(64,_,_),(78,_,_),(79,_,_),(80,_,_),(81,_,_),(82,_,_),(83,_,_),(84,_,_),(85,_,_),(86,_,_),(87,_,_)] (Za O (Za O (Za O (Za O (Za O (Za O (Za O (Za O (Za O (Za O (Za O (Za O (Za O (Za O (Za O (Za O (Za O (Za O (Za O (Za O (Za O (Za O (Za O (Za O (Za O (Za O (Za O (Za O (Za O (Za O (Zo _))))))))))))))))))))))))))))))) (Qp (kq (Zi (Zk (Zp O (Xwe O O (Ze (kq (Wn O (fun h4=>?_) (fun h4=>?_)))))))))));replace h4:0≤(findD F 4 t.text).2:=by simp only [decide_eq_true_eq] at h4;omega
 have hl4:=H.l4 h4;refine Zi (Zk (Zp O (Yf Qh O (AS fun _ ga _ g E=>?_))));first|replace gl1:=Ya gl1 ga (by omega)|clear gl1|skip
 have hk85:=Ud hk85;refine Yf Qg O (AS fun _ ga _ g E=>?_);first|replace gl1:=Ya gl1 ga (by omega)|clear gl1|skip
 have hk85:=Ud hk85;refine Ze (kq (Zi (Zi (Zk (?_)))));obtain ⟨e0,p1,c1,hcell,hkid⟩:=Yl hk85 (i:=0) (by omega);obtain ⟨e1,p2,c2,hcell1,hkid1⟩:=Yl hk85 (i:=1) (by omega);refine Yf Zg O (Yp Zf O (E.g0.at_ O) (Ji Zc O O (by omega) e0 (Yf Zg O (Yp Zf O (hcell.one (i:=4) O) (Xha Zc O (Zya O O (Zp O (Zj O O O (fun _=>Zn Zg (Zd O)) (Yk O O O (Zw Zf (Zm O id) (fun _=>E.g0.at_ O)) (Zj O O O (fun _=>Xb Zc (Zm O id) Xg (fun _=>by omega) (fun _=>e1)) (Zj O O O (fun _=>Zn Xl (Zm O id)) (Yk O O O (Zw Yh (Zm O id) (fun _=>hcell1.one (i:=0) O)) (Zj O O O (fun _=>Zpa (Zm O id) Xg) (Zq O (fun _=>Yd (Zd O) (Zm O id)) (Ze (kq (?_)))))))))))))))));refine Wn O (fun h5=>?_) (fun h5=>?_);(try simp only [bsimp] at h5);refine Zk (Jv Wl Vi (pqc O pq0) O O (Yf Wk O (Xi O We (Zd O) (Zd O) O O E.g2 O O ?_)));intro wS16 hgS16 _ BS;replace E:=E.s2 hgS16 BS;have g:=Ya g hgS16 (by omega);first|replace gl1:=Ya gl1 hgS16 (by omega)|clear gl1|skip
 refine Ze (kq (Zi (Zk (Ve Zh O O E.g2.row (AS fun _ ga _ g E=>?_)))));first|replace gl1:=Ya gl1 ga (by omega)|clear gl1|skip
 refine Yr O (Ze (kq (Xe (Ut (rs:=[.cell 4 26,.tmp 5]) (vs:=[_,_]) O O (Qy O Zh O (E.g3.row) (Qm O (Wy))) O ?_))));refine ⟨?_,g⟩;unfold lookR;rw [hF];dsimp only;rw [Wdh h3,Weh h4,Vuc,h5];rfl;refine Yb (kq (Zi (Zk (Ve Zh O O E.g2.row (AS fun _ ga _ g E=>?_)))));first|replace gl1:=Ya gl1 ga (by omega)|clear gl1|skip
 refine Yr O (Ze (kq (Xe (Ut (rs:=[.cell 4 26,.tmp 5]) (vs:=[_,_]) O O (Qy O Zh O (E.g3.row) (Qm O (Wy))) O ?_))));refine ⟨?_,g⟩;unfold lookR;rw [hF];dsimp only;rw [Wdh h3,Weh h4,Vuc,h5];rfl;replace h4:¬ 0≤(findD F 4 t.text).2:=by simp only [decide_eq_false_iff_not] at h4;omega
 refine Yb (kq (Zi (Zk (Ve Zh O O E.g2.row (AS fun _ ga _ g E=>?_)))));first|replace gl1:=Ya gl1 ga (by omega)|clear gl1|skip
 refine Yr O (Ze (kq (Xe (Ut (rs:=[.cell 4 26,.tmp 5]) (vs:=[_,_]) O O (Qy O Zh O (E.g3.row) (Qm O (Wy))) O ?_))));refine ⟨?_,g⟩;unfold lookR;rw [hF];dsimp only;rw [Wdh h3,Wdh h4];rfl;refine Zv (L':=[6,7,8,9,11,12]) [3,3,3,0,3,0,1,3,3,3,1,2,3] rfl rfl rfl ?_;refine AN fun _ _ N11 _ g E=>?_;have l11_gl1:=N11.ge gl1;have gl1:=gl1.trans (N11.g);refine Yj ((N11.g).only _) ?_;refine Zu 6 O O ?_;refine Zv (L':=[7,8,9,11,12]) [3,3,3,0,3,0,1,3,3,3,1,2,3] O O O ?_;refine CL (Yqa F fv _ _ 4 t.text (h.kF.grow g) h.hF) ?_;rintro v85 w85 ⟨⟨p85,c85,rfl,hk85⟩,g85⟩;refine ⟨fun _=>g85,?_⟩;have g:=g.trans g85;have gl1:=gl1.trans (g85);replace E:=E.grow g85;refine Yj ((g85).only _) ?_;refine Zx 7 O O (fun _=>Zl (Zd O)) (Zx 8 O O (fun _=>Xs (Zd O) O) (Zx 9 O O (fun _=>Xs (Zd O) O) (Zu 11 O O ?_)));refine Ye (L':=[12]) [3,3,3,0,3,0,1,3,3,3,1,2,3] O O O O ?_;refine AS fun _ ga _ g E=>?_;first|replace gl1:=Ya gl1 ga (by omega)|clear gl1|skip
 have hk85:=Ud hk85;refine Yy ?_;refine Zx 12 O O (fun _=>Yu (Zd O)) (Upa [(0,_,_),(3,_,_),(4,_,_),(6,_,_),(9,_,_),(10,_,_),(11,_,_),(12,_,_),(53,_,_),(54,_,_),(55,_,_),(56,_,_),(57,_,_),(58,_,_),(59,_,_),(60,_,_),(61,_,_),(62,_,_),(63,_,_),(64,_,_),(78,_,_),(79,_,_),(80,_,_),(81,_,_),(82,_,_),(83,_,_),(84,_,_),(85,_,_),(86,_,_),(87,_,_)] (Za O (Za O (Za O (Za O (Za O (Za O (Za O (Za O (Za O (Za O (Za O (Za O (Za O (Za O (Za O (Za O (Za O (Za O (Za O (Za O (Za O (Za O (Za O (Za O (Za O (Za O (Za O (Za O (Za O (Za O (Zo _))))))))))))))))))))))))))))))) (Qp (kq (Zi (Zk (Zp O (Xwe O O (Ze (kq (Wn O (fun h4=>?_) (fun h4=>?_)))))))))));replace h4:0≤(findD F 4 t.text).2:=by simp only [decide_eq_true_eq] at h4;omega
 have hl4:=H.l4 h4;refine Zi (Zk (Zp O (Yf Qh O (AS fun _ ga _ g E=>?_))));first|replace gl1:=Ya gl1 ga (by omega)|clear gl1|skip
 have hk85:=Ud hk85;refine Yf Qg O (AS fun _ ga _ g E=>?_);first|replace gl1:=Ya gl1 ga (by omega)|clear gl1|skip
 have hk85:=Ud hk85;refine Ze (kq (Zi (Zi (Zk (?_)))));obtain ⟨e0,p1,c1,hcell,hkid⟩:=Yl hk85 (i:=0) (by omega);obtain ⟨e1,p2,c2,hcell1,hkid1⟩:=Yl hk85 (i:=1) (by omega);refine Yf Zg O (Yp Zf O (E.g0.at_ O) (Ji Zc O O (by omega) e0 (Yf Zg O (Yp Zf O (hcell.one (i:=4) O) (Xha Zc O (Zya O O (Zp O (Zj O O O (fun _=>Zn Zg (Zd O)) (Yk O O O (Zw Zf (Zm O id) (fun _=>E.g0.at_ O)) (Zj O O O (fun _=>Xb Zc (Zm O id) Xg (fun _=>by omega) (fun _=>e1)) (Zj O O O (fun _=>Zn Xl (Zm O id)) (Yk O O O (Zw Yh (Zm O id) (fun _=>hcell1.one (i:=0) O)) (Zj O O O (fun _=>Zpa (Zm O id) Xg) (Zq O (fun _=>Yd (Zd O) (Zm O id)) (Ze (kq (?_)))))))))))))))));refine Wn O (fun h5=>?_) (fun h5=>?_);(try simp only [bsimp] at h5);refine Zk (Jv Wl Vi (pqc O pq0) O O (Yf Wk O (Xi O We (Zd O) (Zd O) O O E.g2 O O ?_)));intro wS16 hgS16 _ BS;replace E:=E.s2 hgS16 BS;have g:=Ya g hgS16 (by omega);first|replace gl1:=Ya gl1 hgS16 (by omega)|clear gl1|skip
 refine Ze (kq (Zi (Zk (Ve Zh O O E.g2.row (AS fun _ ga _ g E=>?_)))));first|replace gl1:=Ya gl1 ga (by omega)|clear gl1|skip
 refine Yr O (Ze (kq (Xe (Ut (rs:=[.cell 4 26,.tmp 5]) (vs:=[_,_]) O O (Qy O Zh O (E.g3.row) (Qm O (Wy))) O ?_))));refine ⟨?_,g⟩;unfold lookR;rw [hF];dsimp only;rw [Wdh h3,Weh h4,Vuc,h5];rfl;refine Yb (kq (Zi (Zk (Ve Zh O O E.g2.row (AS fun _ ga _ g E=>?_)))));first|replace gl1:=Ya gl1 ga (by omega)|clear gl1|skip
 refine Yr O (Ze (kq (Xe (Ut (rs:=[.cell 4 26,.tmp 5]) (vs:=[_,_]) O O (Qy O Zh O (E.g3.row) (Qm O (Wy))) O ?_))));refine ⟨?_,g⟩;unfold lookR;rw [hF];dsimp only;rw [Wdh h3,Weh h4,Vuc,h5];rfl;replace h4:¬ 0≤(findD F 4 t.text).2:=by simp only [decide_eq_false_iff_not] at h4;omega
 refine Yb (kq (Zi (Zk (Ve Zh O O E.g2.row (AS fun _ ga _ g E=>?_)))));first|replace gl1:=Ya gl1 ga (by omega)|clear gl1|skip
 refine Yr O (Ze (kq (Xe (Ut (rs:=[.cell 4 26,.tmp 5]) (vs:=[_,_]) O O (Qy O Zh O (E.g3.row) (Qm O (Wy))) O ?_))));refine ⟨?_,g⟩;unfold lookR;rw [hF];dsimp only;rw [Wdh h3,Wdh h4];rfl
theorem Ywe{s:List UInt8}(h:nameB s=true):s≠[]:=by
 intro e;subst e;revert h;decide
theorem Uu{t:Nd}{f:Nd→Bool}(h:t.kids.all f=true){i:Nat}(hi:i<t.kids.length):f (Zb t i)=true:=by
 rw [Wc hi];exact List.all_eq_true.1 h _ (List.getElem_mem hi)
theorem Zzh{s:List UInt8}(h:anyS binOps s=true):s≠[]:=by
 intro e;subst e;revert h;decide
theorem Uug{t:Nd}(h:isTypeB t=true):t.kids.length=0:=by
 unfold isTypeB at h;cases h1:decide (t.kind=8);rw [h1] at h;cases h2:decide (t.kind=7);rw [h2] at h;cases h;rw [h2] at h;have h:(typeNameB t.text&&leafB t)=true:=h;have:=(Bool.and_eq_true_iff.1 h).2;unfold leafB at this;simp at this;simp [this];rw [h1] at h;have h:(nameB t.text&&leafB t)=true:=h;have:=(Bool.and_eq_true_iff.1 h).2;unfold leafB at this;simp at this;simp [this]
theorem Wba{t:Nd}(h:noneB t=true):t.kind=9∧t.text=[]∧t.kids.length=0:=by
 unfold noneB at h;simp only [Bool.and_eq_true,decide_eq_true_eq] at h;exact ⟨h.1.1,h.1.2,by simpa [lenK] using h.2⟩
theorem Yxe{t:Nd}{k:Int}(h:kindB t k=true):t.kind=k∧exprB t=true:=by
 unfold kindB at h;simp only [Bool.and_eq_true,decide_eq_true_eq] at h;exact h
theorem Zmb{t:Nd}(h:blockB t=true):t.kind=10:=of_decide_eq_true (Bool.and_eq_true_iff.1 h).1
theorem sh28{t:Nd}(h:t.kind=28)(hx:exprB t=true):t.text≠[]∧t.kids.length=1∧exprB (Zb t 0)=true:=by
 rw [← Zsa] at hx;unfold Qv at hx;rw [h] at hx;have hx:((nameB t.text&&lenK t 1)&&exprB (Zb t 0))=true:=hx;simp only [Bool.and_eq_true,Bool.or_eq_true,decide_eq_true_eq] at hx;exact ⟨Ywe hx.1.1,by (have hz:=hx.1.2;first|(unfold lenK at hz;simp at hz;omega)|(simp at hz;omega)),hx.2⟩
theorem sh29{t:Nd}(h:t.kind=29)(hx:exprB t=true):t.kids.length=2∧exprB (Zb t 0)=true∧exprB (Zb t 1)=true:=by
 rw [← Zsa] at hx;unfold Qv at hx;rw [h] at hx;have hx:((plainB t&&lenK t 2)&&t.kids.all exprB)=true:=hx;simp only [Bool.and_eq_true,Bool.or_eq_true,decide_eq_true_eq] at hx;exact ⟨by (have hz:=hx.1.2;first|(unfold lenK at hz;simp at hz;omega)|(simp at hz;omega)),Uu hx.2 (by (have hz:=hx.1.2;first|(unfold lenK at hz;simp at hz;omega)|(simp at hz;omega))),Uu hx.2 (by (have hz:=hx.1.2;first|(unfold lenK at hz;simp at hz;omega)|(simp at hz;omega)))⟩
theorem sh30{t:Nd}(h:t.kind=30)(hx:exprB t=true):1≤t.kids.length∧t.kids.all exprB=true:=by
 rw [← Zsa] at hx;unfold Qv at hx;rw [h] at hx;have hx:((plainB t&&decide (1≤(t.kids.length:Int)))&&t.kids.all exprB)=true:=hx;simp only [Bool.and_eq_true,Bool.or_eq_true,decide_eq_true_eq] at hx;exact ⟨by have:=hx.1.2;omega,hx.2⟩
theorem sh31{t:Nd}(h:t.kind=31)(hx:exprB t=true):t.text≠[]∧t.kids.length=1∧exprB (Zb t 0)=true:=by
 rw [← Zsa] at hx;unfold Qv at hx;rw [h] at hx;have hx:(((decide (t.text=[45]) || decide (t.text=[33]))&&lenK t 1)&&exprB (Zb t 0))=true:=hx;simp only [Bool.and_eq_true,Bool.or_eq_true,decide_eq_true_eq] at hx;exact ⟨by rcases hx.1.1 with e|e <;> rw [e] <;> simp,by (have hz:=hx.1.2;first|(unfold lenK at hz;simp at hz;omega)|(simp at hz;omega)),hx.2⟩
theorem sh32{t:Nd}(h:t.kind=32)(hx:exprB t=true):t.text≠[]∧t.kids.length=2∧exprB (Zb t 0)=true∧exprB (Zb t 1)=true:=by
 rw [← Zsa] at hx;unfold Qv at hx;rw [h] at hx;have hx:((anyS binOps t.text&&lenK t 2)&&t.kids.all exprB)=true:=hx;simp only [Bool.and_eq_true,Bool.or_eq_true,decide_eq_true_eq] at hx;exact ⟨Zzh hx.1.1,by (have hz:=hx.1.2;first|(unfold lenK at hz;simp at hz;omega)|(simp at hz;omega)),Uu hx.2 (by (have hz:=hx.1.2;first|(unfold lenK at hz;simp at hz;omega)|(simp at hz;omega))),Uu hx.2 (by (have hz:=hx.1.2;first|(unfold lenK at hz;simp at hz;omega)|(simp at hz;omega)))⟩
theorem sh33{t:Nd}(h:t.kind=33)(hx:exprB t=true):t.kids.length=1∧exprB (Zb t 0)=true:=by
 rw [← Zsa] at hx;unfold Qv at hx;rw [h] at hx;have hx:((plainB t&&lenK t 1)&&exprB (Zb t 0))=true:=hx;simp only [Bool.and_eq_true,Bool.or_eq_true,decide_eq_true_eq] at hx;exact ⟨by (have hz:=hx.1.2;first|(unfold lenK at hz;simp at hz;omega)|(simp at hz;omega)),hx.2⟩
theorem sh35{t:Nd}(h:t.kind=35)(hx:exprB t=true):t.kids.length=1∧exprB (Zb t 0)=true:=by
 rw [← Zsa] at hx;unfold Qv at hx;rw [h] at hx;have hx:((plainB t&&lenK t 1)&&exprB (Zb t 0))=true:=hx;simp only [Bool.and_eq_true,Bool.or_eq_true,decide_eq_true_eq] at hx;exact ⟨by (have hz:=hx.1.2;first|(unfold lenK at hz;simp at hz;omega)|(simp at hz;omega)),hx.2⟩
theorem sh36{t:Nd}(h:t.kind=36)(hx:exprB t=true):t.kids.length=1∧exprB (Zb t 0)=true:=by
 rw [← Zsa] at hx;unfold Qv at hx;rw [h] at hx;have hx:((plainB t&&lenK t 1)&&exprB (Zb t 0))=true:=hx;simp only [Bool.and_eq_true,Bool.or_eq_true,decide_eq_true_eq] at hx;exact ⟨by (have hz:=hx.1.2;first|(unfold lenK at hz;simp at hz;omega)|(simp at hz;omega)),hx.2⟩
theorem sh37{t:Nd}(h:t.kind=37)(hx:exprB t=true):t.kids.length=1∧exprB (Zb t 0)=true:=by
 rw [← Zsa] at hx;unfold Qv at hx;rw [h] at hx;have hx:((plainB t&&lenK t 1)&&exprB (Zb t 0))=true:=hx;simp only [Bool.and_eq_true,Bool.or_eq_true,decide_eq_true_eq] at hx;exact ⟨by (have hz:=hx.1.2;first|(unfold lenK at hz;simp at hz;omega)|(simp at hz;omega)),hx.2⟩
theorem sh38{t:Nd}(h:t.kind=38)(hx:exprB t=true):t.kids.length=1∧blockB (Zb t 0)=true:=by
 rw [← Zsa] at hx;unfold Qv at hx;rw [h] at hx;have hx:((plainB t&&lenK t 1)&&blockB (Zb t 0))=true:=hx;simp only [Bool.and_eq_true,Bool.or_eq_true,decide_eq_true_eq] at hx;exact ⟨by (have hz:=hx.1.2;first|(unfold lenK at hz;simp at hz;omega)|(simp at hz;omega)),hx.2⟩
theorem sh11{t:Nd}(h:t.kind=11)(hx:stmtB t=true):t.text≠[]∧t.kids.length=1∧exprB (Zb t 0)=true:=by
 rw [← Je] at hx;unfold refStmt at hx;rw [h] at hx;have hx:((nameB t.text&&lenK t 1)&&exprB (Zb t 0))=true:=hx;simp only [Bool.and_eq_true,Bool.or_eq_true,decide_eq_true_eq] at hx;exact ⟨Ywe hx.1.1,by (have hz:=hx.1.2;first|(unfold lenK at hz;simp at hz;omega)|(simp at hz;omega)),hx.2⟩
theorem sh12{t:Nd}(h:t.kind=12)(hx:stmtB t=true):t.kids.length=2∧exprB (Zb t 0)=true∧exprB (Zb t 1)=true:=by
 rw [← Je] at hx;unfold refStmt at hx;rw [h] at hx;have hx:((plainB t&&lenK t 2)&&t.kids.all exprB)=true:=hx;simp only [Bool.and_eq_true,Bool.or_eq_true,decide_eq_true_eq] at hx;exact ⟨by (have hz:=hx.1.2;first|(unfold lenK at hz;simp at hz;omega)|(simp at hz;omega)),Uu hx.2 (by (have hz:=hx.1.2;first|(unfold lenK at hz;simp at hz;omega)|(simp at hz;omega))),Uu hx.2 (by (have hz:=hx.1.2;first|(unfold lenK at hz;simp at hz;omega)|(simp at hz;omega)))⟩
theorem sh16{t:Nd}(h:t.kind=16)(hx:stmtB t=true):t.kids.length=2∧exprB (Zb t 0)=true∧exprB (Zb t 1)=true:=by
 rw [← Je] at hx;unfold refStmt at hx;rw [h] at hx;have hx:((plainB t&&lenK t 2)&&t.kids.all exprB)=true:=hx;simp only [Bool.and_eq_true,Bool.or_eq_true,decide_eq_true_eq] at hx;exact ⟨by (have hz:=hx.1.2;first|(unfold lenK at hz;simp at hz;omega)|(simp at hz;omega)),Uu hx.2 (by (have hz:=hx.1.2;first|(unfold lenK at hz;simp at hz;omega)|(simp at hz;omega))),Uu hx.2 (by (have hz:=hx.1.2;first|(unfold lenK at hz;simp at hz;omega)|(simp at hz;omega)))⟩
theorem sh13{t:Nd}(h:t.kind=13)(hx:stmtB t=true):t.kids.length=1∧exprB (Zb t 0)=true:=by
 rw [← Je] at hx;unfold refStmt at hx;rw [h] at hx;have hx:((plainB t&&lenK t 1)&&(kindB (Zb t 0) 30 || kindB (Zb t 0) 33))=true:=hx;simp only [Bool.and_eq_true,Bool.or_eq_true,decide_eq_true_eq] at hx;exact ⟨by (have hz:=hx.1.2;first|(unfold lenK at hz;simp at hz;omega)|(simp at hz;omega)),hx.2.elim (fun h=>(Yxe h).2) (fun h=>(Yxe h).2)⟩
theorem sh14{t:Nd}(h:t.kind=14)(hx:stmtB t=true):t.kids.length=1∧exprB (Zb t 0)=true:=by
 rw [← Je] at hx;unfold refStmt at hx;rw [h] at hx;have hx:((plainB t&&lenK t 1)&&kindB (Zb t 0) 30)=true:=hx;simp only [Bool.and_eq_true,Bool.or_eq_true,decide_eq_true_eq] at hx;exact ⟨by (have hz:=hx.1.2;first|(unfold lenK at hz;simp at hz;omega)|(simp at hz;omega)),(Yxe hx.2).2⟩
theorem sh15{t:Nd}(h:t.kind=15)(hx:stmtB t=true):t.kids.length=1∧exprB (Zb t 0)=true:=by
 rw [← Je] at hx;unfold refStmt at hx;rw [h] at hx;have hx:((plainB t&&lenK t 1)&&kindB (Zb t 0) 30)=true:=hx;simp only [Bool.and_eq_true,Bool.or_eq_true,decide_eq_true_eq] at hx;exact ⟨by (have hz:=hx.1.2;first|(unfold lenK at hz;simp at hz;omega)|(simp at hz;omega)),(Yxe hx.2).2⟩
theorem sh17{t:Nd}(h:t.kind=17)(hx:stmtB t=true):t.kids.length=1∧exprB (Zb t 0)=true:=by
 rw [← Je] at hx;unfold refStmt at hx;rw [h] at hx;have hx:((plainB t&&lenK t 1)&&exprB (Zb t 0))=true:=hx;simp only [Bool.and_eq_true,Bool.or_eq_true,decide_eq_true_eq] at hx;exact ⟨by (have hz:=hx.1.2;first|(unfold lenK at hz;simp at hz;omega)|(simp at hz;omega)),hx.2⟩
theorem sh21{t:Nd}(h:t.kind=21)(hx:stmtB t=true):t.kids.length=1∧exprB (Zb t 0)=true:=by
 rw [← Je] at hx;unfold refStmt at hx;rw [h] at hx;have hx:((plainB t&&lenK t 1)&&exprB (Zb t 0))=true:=hx;simp only [Bool.and_eq_true,Bool.or_eq_true,decide_eq_true_eq] at hx;exact ⟨by (have hz:=hx.1.2;first|(unfold lenK at hz;simp at hz;omega)|(simp at hz;omega)),hx.2⟩
theorem sh20{t:Nd}(h:t.kind=20)(hx:stmtB t=true):t.kids.length≤1∧t.kids.all exprB=true:=by
 rw [← Je] at hx;unfold refStmt at hx;rw [h] at hx;have hx:((plainB t&&decide ((t.kids.length:Int)≤1))&&t.kids.all exprB)=true:=hx;simp only [Bool.and_eq_true,Bool.or_eq_true,decide_eq_true_eq] at hx;exact ⟨by have:=hx.1.2;omega,hx.2⟩
theorem sh19{t:Nd}(h:t.kind=19)(hx:stmtB t=true):t.kids.length=2∧(noneB (Zb t 0)=true∨exprB (Zb t 0)=true)∧blockB (Zb t 1)=true:=by
 rw [← Je] at hx;unfold refStmt at hx;rw [h] at hx;have hx:(((plainB t&&lenK t 2)&&(noneB (Zb t 0) || exprB (Zb t 0)))&&blockB (Zb t 1))=true:=hx;simp only [Bool.and_eq_true,Bool.or_eq_true,decide_eq_true_eq] at hx;exact ⟨by (have hz:=hx.1.1.2;first|(unfold lenK at hz;simp at hz;omega)|(simp at hz;omega)),hx.1.2,hx.2⟩
theorem sh6s{t:Nd}(h:t.kind=6)(hx:stmtB t=true):varB t=true:=by
 rw [← Je] at hx;unfold refStmt at hx;rw [h] at hx;have hx:(varB t)=true:=hx;exact hx
theorem sh10s{t:Nd}(h:t.kind=10)(hx:stmtB t=true):blockB t=true:=by
 rw [← Je] at hx;unfold refStmt at hx;rw [h] at hx;have hx:(blockB t)=true:=hx;exact hx
theorem sh18s{t:Nd}(h:t.kind=18)(hx:stmtB t=true):ifB t=true:=by
 rw [← Je] at hx;unfold refStmt at hx;rw [h] at hx;have hx:(ifB t)=true:=hx;exact hx
theorem sh10{t:Nd}(hx:blockB t=true):t.kids.all stmtB=true:=by
 rw [← Jgc,Vsc] at hx;cases h:(!decide (t.kind=10) || !plainB t);rw [h] at hx;exact hx;rw [h] at hx;cases hx
theorem sh18{t:Nd}(hx:ifB t=true):t.kids.length=3∧exprB (Zb t 0)=true∧blockB (Zb t 1)=true∧(blockB (Zb t 2)=true∨ifB (Zb t 2)=true∨noneB (Zb t 2)=true):=by
 rw [← Vie,Xaf] at hx;cases h:((!decide (t.kind=18) || !plainB t) || !lenK t 3);rw [h,cond_false] at hx;simp only [Bool.and_eq_true,Bool.or_eq_true] at hx;simp only [Bool.or_eq_false_iff,Bool.not_eq_false'] at h;exact ⟨by (have hz:=h.2;first|(unfold lenK at hz;simp at hz;omega)|(simp at hz;omega)),hx.1.1,hx.1.2,hx.2.elim (fun h=>h.elim .inl fun h=>.inr (.inl h)) fun h=>.inr (.inr h)⟩;rw [h] at hx;cases hx
theorem sh6{t:Nd}(hx:varB t=true):t.text≠[]∧t.kids.length=2∧isTypeB (Zb t 0)=true∧(noneB (Zb t 1)=true∨exprB (Zb t 1)=true):=by
 rw [← Qvd,refVar] at hx;simp only [Bool.and_eq_true,Bool.or_eq_true] at hx;exact ⟨Ywe hx.1.1.1.2,by (have hz:=hx.1.1.2;first|(unfold lenK at hz;simp at hz;omega)|(simp at hz;omega)),hx.1.2,hx.2⟩
theorem sh22{t:Nd}(h:t.kind=22)(hx:stmtB t=true):t.kids.all Qza=true:=by
 have hp:permF t=true:=(Bool.and_eq_true_iff.1 hx).2;rw [← Vtc h] at hp;exact (Bool.and_eq_true_iff.1 hp).1
theorem sh23{t:Nd}(hx:Qza t=true):t.kind=23∧t.kids.length=2∧commF (Zb t 0)=true∧blockB (Zb t 1)=true:=by
 unfold Qza at hx;simp only [Bool.and_eq_true,decide_eq_true_eq] at hx;exact ⟨hx.1.1.1.1,by (have hz:=hx.1.1.2;first|(unfold lenK at hz;simp at hz;omega)|(simp at hz;omega)),hx.1.2,hx.2⟩
theorem Jjd{t:Nd}(h:commF t=true):t.kind=9∨stmtB t=true:=by
 rw [← Wnd,Yab] at h;cases h1:anyK [16,9] t.kind;rw [h1,cond_false] at h;cases h2:decide (t.kind=13);rw [h2,cond_false] at h;cases h3:decide (t.kind=12);rw [h3,cond_false] at h;cases h4:decide (t.kind=11);rw [h4] at h;cases h;rw [h4] at h;exact .inr (Bool.and_eq_true_iff.1 h).1;rw [h3] at h;exact .inr (Bool.and_eq_true_iff.1 h).1;rw [h2] at h;exact .inr (Bool.and_eq_true_iff.1 h).1;rw [h1,cond_true,Bool.or_eq_true] at h;exact h.elim .inr fun h=>.inl (Wba h).1
def tabsL(k:Nat):List UInt8:=List.replicate k 9
def digF:Nat→Nat→List UInt8
 | 0,_=>[]
 | f+1,n=>bif Nat.blt n 10 then [UInt8.ofNat (48+n)] else digF f (n / 10)++[UInt8.ofNat (48+n % 10)]
def digL(n:Nat):List UInt8:=digF 20 n
structure Tx where
  ex:Nat→List UInt8
  st:Nat→List UInt8
  ls:Nat→List UInt8
  cs:Nat→List UInt8
def tx0:Tx:=⟨fun _=>[],fun _=>[],fun _=>[],fun _=>[]⟩
def blkX(x:Tx)(k:Nat):List UInt8:=(([123,10]++x.ls (k+1))++tabsL k)++[125]
def parX(q:Bool)(s:List UInt8):List UInt8:=bif q then ([40]++s)++[41] else s
def joinX:List (List UInt8)→List UInt8
 | []=>[]
 | s::r=>s++r.flatMap fun u=>[44,32]++u
def typeX(t:Nd):List UInt8:=bif decide (t.kind=8) then [42]++t.text else bif decide (t.text=[99,104,97,110]) then [99,104,97,110,32,105,110,116] else bif decide (t.text=[102,117,110,99]) then [102,117,110,99,40,41] else t.text
section
variable (t:Nd) (x:Nat→Tx) (l:List Tx)
def oprX(i k:Nat):List UInt8:=parX (decide ((Zb t i).kind=32)) ((x i).ex k)
def basX(k:Nat):List UInt8:=parX ((decide ((Zb t 0).kind=32) || decide ((Zb t 0).kind=31)) || decide ((Zb t 0).kind=33)) ((x 0).ex k)
def exX(k:Nat):List UInt8 :=
 bif decide (t.kind=24) then digL t.num.toNat
 else bif decide (t.kind=25) then (bif decide (t.num=1) then [116,114,117,101] else [102,97,108,115,101])
 else bif decide (t.kind=26) then [110,105,108]
 else bif decide (t.kind=27) then t.text
 else bif decide (t.kind=34) then ([110,101,119,40]++t.text)++[41]
 else bif decide (t.kind=28) then (basX t x k++[46])++t.text
 else bif decide (t.kind=29) then ((basX t x k++[91])++(x 1).ex k)++[93]
 else bif decide (t.kind=30) then ((basX t x k++[40])++joinX ((l.drop 1).map fun y=>y.ex k))++[41]
 else bif decide (t.kind=31) then t.text++oprX t x 0 k
 else bif decide (t.kind=33) then [60,45]++oprX t x 0 k
 else bif decide (t.kind=32) then (((oprX t x 0 k++[32])++t.text)++[32])++oprX t x 1 k
 else bif decide (t.kind=35) then ([109,97,107,101,40,91,93,105,110,116,44,32]++(x 0).ex k)++[41]
 else bif decide (t.kind=36) then ([109,97,107,101,40,99,104,97,110,32,105,110,116,44,32]++(x 0).ex k)++[41]
 else bif decide (t.kind=37) then ([108,101,110,40]++(x 0).ex k)++[41]
 else [102,117,110,99,40,41,32]++blkX (x 0) k
def varX(k:Nat):List UInt8:=((([118,97,114,32]++t.text)++[32])++typeX (Zb t 0))++(bif decide ((Zb t 1).kind=9) then [] else [32,61,32]++(x 1).ex k)
def ifX(k:Nat):List UInt8:=((([105,102,32]++(x 0).ex k)++[32])++blkX (x 1) k)++(bif decide ((Zb t 2).kind=10) then [32,101,108,115,101,32]++blkX (x 2) k else bif decide ((Zb t 2).kind=18) then [32,101,108,115,101,32]++(x 2).st k else [])
def stX(k:Nat):List UInt8 :=
 bif decide (t.kind=6) then varX t x k
 else bif decide (t.kind=10) then (([123,10]++l.flatMap fun y=>(tabsL (k+1)++y.st (k+1))++[10])++tabsL k)++[125]
 else bif decide (t.kind=11) then (t.text++[32,58,61,32])++(x 0).ex k
 else bif decide (t.kind=12) then ((x 0).ex k++[32,61,32])++(x 1).ex k
 else bif decide (t.kind=13) then (x 0).ex k
 else bif decide (t.kind=14) then [103,111,32]++(x 0).ex k
 else bif decide (t.kind=15) then [100,101,102,101,114,32]++(x 0).ex k
 else bif decide (t.kind=16) then ((x 0).ex k++[32,60,45,32])++(x 1).ex k
 else bif decide (t.kind=17) then ([99,108,111,115,101,40]++(x 0).ex k)++[41]
 else bif decide (t.kind=21) then ([112,114,105,110,116,40]++(x 0).ex k)++[41]
 else bif decide (t.kind=18) then ifX t x k
 else bif decide (t.kind=22) then (([115,101,108,101,99,116,32,123,10]++l.flatMap fun y=>y.cs k)++tabsL k)++[125]
 else bif decide (t.kind=20) then (bif lenK t 0 then [114,101,116,117,114,110] else [114,101,116,117,114,110,32]++(x 0).ex k)
 else bif decide ((Zb t 0).kind=9) then [102,111,114,32]++blkX (x 1) k
 else (([102,111,114,32]++(x 0).ex k)++[32])++blkX (x 1) k
def csX(k:Nat):List UInt8:=(bif decide ((Zb t 0).kind=9) then tabsL k++[100,101,102,97,117,108,116,58,10] else ((tabsL k++[99,97,115,101,32])++(x 0).st k)++[58,10])++(x 1).ls (k+1)
end
def lsX(l:List Tx)(k:Nat):List UInt8:=l.flatMap fun y=>(tabsL k++y.st k)++[10]
def txF(t:Nd)(l:List Tx):Tx:=⟨exX t (fun i=>l.getD i tx0) l,stX t (fun i=>l.getD i tx0) l,lsX l,csX t (fun i=>l.getD i tx0)⟩
def txT(t:Nd):Tx:=para txF t
/-! the program's way: a line feed ahead of each line -/
abbrev Bs:=List UInt8
def cut:Bs→Bs→Option Bs
 | [],s=>some s
 | _::_,[]=>none
 | a::p,b::s=>bif decide (a=b) then cut p s else none
def hd(s:Bs):UInt8:=s.headD 0
def wdF(s:Bs):Bs:=s.takeWhile alB
def wrF(s:Bs):Bs:=s.dropWhile alB
def dgB(c:UInt8):Bool:=digitB c.toNat
def nb(s:Bs):Bool:=!alB (hd s)
def cutOps:List Bs→Bs→Option (Bs×Bs)
 | [],_=>none
 | o::l,s=>match cut (o++[32]) s with
  | some r=>some (o,r)
  | none=>cutOps l s
def Jzg(s:Bs):Option (Bs×Bs):=match cut [32] s with
 | some r=>cutOps binOps r
 | none=>none
def nd(k:Int)(s:Bs)(n:Int)(ks:List Nd):Nd:=.mk k s n 0 ks ty0 0 0
inductive Md where
  | e|u|s (x:Nd)|a (l:List Nd)|b|l (l:List Nd)|t|i|c (l:List Nd)
def tyP(s:Bs):Option (Nd×Bs):=match cut [42] s with
 | some r=>some (nd 8 (wdF r) 0 [],wrF r)
 | none=>match cut [91,93,105,110,116] s with
  | some r=>some (nd 7 [91,93,105,110,116] 0 [],r)
  | none =>
   bif decide (wdF s=[99,104,97,110]) then (cut [32,105,110,116] (wrF s)).map fun r=>(nd 7 [99,104,97,110] 0 [],r)
   else bif decide (wdF s=[102,117,110,99]) then (cut [40,41] (wrF s)).map fun r=>(nd 7 [102,117,110,99] 0 [],r)
   else some (nd 7 (wdF s) 0 [],wrF s)
section
variable (p:Md→Bs→Option (Nd×Bs))
def atP(s:Bs):Option (Nd×Bs) :=
 match cut [40] s with
 | some r=>(p .e r).bind fun x=>(cut [41] x.2).map fun r=>(x.1,r)
 | none =>
  bif dgB (hd s) then some (nd 24 [] (valN 0 (s.takeWhile dgB)) [],s.dropWhile dgB)
  else bif decide (wdF s=[116,114,117,101]) then some (nd 25 [] 1 [],wrF s)
  else bif decide (wdF s=[102,97,108,115,101]) then some (nd 25 [] 0 [],wrF s)
  else bif decide (wdF s=[110,105,108]) then some (nd 26 [] 0 [],wrF s)
  else bif decide (wdF s=[110,101,119]) then (cut [40] (wrF s)).bind fun r=>(cut [41] (wrF r)).map fun r1=>(nd 34 (wdF r) 0 [],r1)
  else bif decide (wdF s=[109,97,107,101]) then
   match cut [40,91,93,105,110,116,44,32] (wrF s) with
   | some r=>(p .e r).bind fun x=>(cut [41] x.2).map fun r=>(nd 35 [] 0 [x.1],r)
   | none=>(cut [40,99,104,97,110,32,105,110,116,44,32] (wrF s)).bind fun r=>(p .e r).bind fun x=>(cut [41] x.2).map fun r=>(nd 36 [] 0 [x.1],r)
  else bif decide (wdF s=[108,101,110]) then (cut [40] (wrF s)).bind fun r=>(p .e r).bind fun x=>(cut [41] x.2).map fun r=>(nd 37 [] 0 [x.1],r)
  else bif decide (wdF s=[102,117,110,99]) then (cut [40,41,32,123,10] (wrF s)).bind fun r=>(p .b r).map fun x=>(nd 38 [] 0 [x.1],x.2)
  else some (nd 27 (wdF s) 0 [],wrF s)
def unP(s:Bs):Option (Nd×Bs) :=
 match cut [45] s with
 | some r=>(p .u r).map fun x=>(nd 31 [45] 0 [x.1],x.2)
 | none=>match cut [33] s with
  | some r=>(p .u r).map fun x=>(nd 31 [33] 0 [x.1],x.2)
  | none=>match cut [60,45] s with
   | some r=>(p .u r).map fun x=>(nd 33 [] 0 [x.1],x.2)
   | none=>(atP p s).bind fun x=>p (.s x.1) x.2
def exP(s:Bs):Option (Nd×Bs):=(p .u s).bind fun x=>match Jzg x.2 with
 | some o=>(p .u o.2).map fun y=>(nd 32 o.1 0 [x.1,y.1],y.2)
 | none=>some x
def sfP(x:Nd)(s:Bs):Option (Nd×Bs) :=
 match cut [46] s with
 | some r=>p (.s (nd 28 (wdF r) 0 [x])) (wrF r)
 | none=>match cut [91] s with
  | some r=>(p .e r).bind fun y=>(cut [93] y.2).bind fun r=>p (.s (nd 29 [] 0 [x,y.1])) r
  | none=>match cut [40] s with
   | some r=>(p (.a []) r).bind fun l=>p (.s (nd 30 [] 0 (x::l.1.kids))) l.2
   | none=>some (x,s)
def arP(l:List Nd)(s:Bs):Option (Nd×Bs) :=
 match cut [41] s with
 | some r=>some (nd 0 [] 0 l,r)
 | none=>(p .e s).bind fun x=>match cut [44,32] x.2 with
  | some r=>p (.a (l++[x.1])) r
  | none=>(cut [41] x.2).map fun r=>(nd 0 [] 0 (l++[x.1]),r)
def tabsP(s:Bs):Bs:=s.dropWhile fun c=>decide (c=9)
def stopB(s:Bs):Bool:=decide (hd s=125) || anyS [[99,97,115,101],[100,101,102,97,117,108,116]] (wdF s)
def lnP(l:List Nd)(s:Bs):Option (Nd×Bs) :=
 bif stopB (tabsP s) then some (nd 10 [] 0 l,tabsP s)
 else (p .t (tabsP s)).bind fun x=>(cut [10] x.2).bind fun r=>p (.l (l++[x.1])) r
def blP'(s:Bs):Option (Nd×Bs):=(p (.l []) s).bind fun x=>(cut [125] x.2).map fun r=>(x.1,r)
def brP(s:Bs):Option (Nd×Bs):=(cut [123,10] s).bind fun r=>p .b r
def ifP(s:Bs):Option (Nd×Bs):=(p .e s).bind fun x=>(cut [32] x.2).bind fun r=>(brP p r).bind fun y =>
 match cut [32,101,108,115,101,32,105,102,32] y.2 with
 | some r=>(p .i r).map fun z=>(nd 18 [] 0 [x.1,y.1,z.1],z.2)
 | none=>match cut [32,101,108,115,101,32] y.2 with
  | some r=>(brP p r).map fun z=>(nd 18 [] 0 [x.1,y.1,z.1],z.2)
  | none=>some (nd 18 [] 0 [x.1,y.1,nd 9 [] 0 []],y.2)
def csP(l:List Nd)(s:Bs):Option (Nd×Bs) :=
 match cut [125] (tabsP s) with
 | some r=>some (nd 22 [] 0 l,r)
 | none=>match cut [100,101,102,97,117,108,116,58,10] (tabsP s) with
  | some r=>(p (.l []) r).bind fun b=>p (.c (l++[nd 23 [] 0 [nd 9 [] 0 [],b.1]])) b.2
  | none=>(cut [99,97,115,101,32] (tabsP s)).bind fun r=>(p .t r).bind fun x=>(cut [58,10] x.2).bind fun r=>(p (.l []) r).bind fun b=>p (.c (l++[nd 23 [] 0 [x.1,b.1]])) b.2
def oneP(k:Int)(s:Bs):Option (Nd×Bs):=(cut [40] s).bind fun r=>(p .e r).bind fun x=>(cut [41] x.2).map fun r=>(nd k [] 0 [x.1],r)
def spP(k:Int)(s:Bs):Option (Nd×Bs):=(cut [32] s).bind fun r=>(p .e r).map fun x=>(nd k [] 0 [x.1],x.2)
def varP(s:Bs):Option (Nd×Bs):=(cut [32] s).bind fun r=>(cut [32] (wrF r)).bind fun r1=>(tyP r1).bind fun y =>
 match cut [32,61,32] y.2 with
 | some r2=>(p .e r2).map fun z=>(nd 6 (wdF r) 0 [y.1,z.1],z.2)
 | none=>some (nd 6 (wdF r) 0 [y.1,nd 9 [] 0 []],y.2)
def simP(s:Bs):Option (Nd×Bs):=(p .e s).bind fun x =>
 match cut [32,58,61,32] x.2 with
 | some r=>(p .e r).map fun y=>(nd 11 x.1.text 0 [y.1],y.2)
 | none=>match cut [32,61,32] x.2 with
  | some r=>(p .e r).map fun y=>(nd 12 [] 0 [x.1,y.1],y.2)
  | none=>match cut [32,60,45,32] x.2 with
   | some r=>(p .e r).map fun y=>(nd 16 [] 0 [x.1,y.1],y.2)
   | none=>some (nd 13 [] 0 [x.1],x.2)
def stP(s:Bs):Option (Nd×Bs) :=
 match cut [123,10] s with
 | some r=>p .b r
 | none =>
  bif decide (wdF s=[118,97,114]) then varP p (wrF s)
  else bif decide (wdF s=[103,111]) then spP p 14 (wrF s)
  else bif decide (wdF s=[100,101,102,101,114]) then spP p 15 (wrF s)
  else bif decide (wdF s=[99,108,111,115,101]) then oneP p 17 (wrF s)
  else bif decide (wdF s=[112,114,105,110,116]) then oneP p 21 (wrF s)
  else bif decide (wdF s=[105,102]) then (cut [32] (wrF s)).bind fun r=>p .i r
  else bif decide (wdF s=[115,101,108,101,99,116]) then (cut [32,123,10] (wrF s)).bind fun r=>p (.c []) r
  else bif decide (wdF s=[114,101,116,117,114,110]) then match cut [32] (wrF s) with
   | some r=>(p .e r).map fun x=>(nd 20 [] 0 [x.1],x.2)
   | none=>some (nd 20 [] 0 [],wrF s)
  else bif decide (wdF s=[102,111,114]) then match cut [32,123,10] (wrF s) with
   | some r=>(p .b r).map fun x=>(nd 19 [] 0 [nd 9 [] 0 [],x.1],x.2)
   | none=>(cut [32] (wrF s)).bind fun r=>(p .e r).bind fun x=>(cut [32] x.2).bind fun r=>(brP p r).map fun y=>(nd 19 [] 0 [x.1,y.1],y.2)
  else simP p s
def stepP:Md→Bs→Option (Nd×Bs)
 | .e,s=>exP p s
 | .u,s=>unP p s
 | .s x,s=>sfP p x s
 | .a l,s=>arP p l s
 | .b,s=>blP' p s
 | .l l,s=>lnP p l s
 | .t,s=>stP p s
 | .i,s=>ifP p s
 | .c l,s=>csP p l s
end
def pG:Nat→Md→Bs→Option (Nd×Bs)
 | 0=>fun _ _=>none
 | f+1=>stepP (pG f)
section
variable {t:Nd} {x:Nat→Tx} {l:List Tx} {k:Nat}
end
theorem Yjg{t:Nd}(h:exprB t=true):t.kind=24∨t.kind=25∨t.kind=26∨t.kind=27∨t.kind=34∨t.kind=28∨t.kind=29∨t.kind=30∨t.kind=31∨t.kind=33∨t.kind=32∨t.kind=35∨t.kind=36∨t.kind=37∨t.kind=38:=by
 have:=(Xtb _ _).1 (Bool.and_eq_true_iff.1 h).1;simp only [List.mem_cons,List.not_mem_nil,or_false] at this;omega
theorem Ubf{t:Nd}(h:stmtB t=true):t.kind=6∨t.kind=10∨t.kind=11∨t.kind=12∨t.kind=13∨t.kind=14∨t.kind=15∨t.kind=16∨t.kind=17∨t.kind=21∨t.kind=18∨t.kind=22∨t.kind=20∨t.kind=19:=by
 have:=(Xtb _ _).1 (Bool.and_eq_true_iff.1 h).1;simp only [List.mem_cons,List.not_mem_nil,or_false] at this;omega
def stW:List Bs:=[[118,97,114],[103,111],[100,101,102,101,114],[99,108,111,115,101],[112,114,105,110,116],[105,102],[115,101,108,101,99,116],[114,101,116,117,114,110],[102,111,114],[99,97,115,101],[100,101,102,97,117,108,116]]
def opn(c:UInt8):Bool:=alB c || (decide (c=40) || (decide (c=45) || (decide (c=33) || decide (c=60))))
structure Hx (s:Bs):Prop where
  o:opn (hd s)=true
  w:anyS stW (wdF s)=false
theorem kids1{t:Nd}(h:t.kids.length=1):t.kids=[Zb t 0]:=by
 match hk:t.kids with
 | [a]=>rw [Zb,hk];rfl
 | []=>rw [hk] at h;cases h
 | _::_::_=>rw [hk] at h;simp at h
theorem kids2{t:Nd}(h:t.kids.length=2):t.kids=[Zb t 0,Zb t 1]:=by
 match hk:t.kids with
 | [a,b]=>rw [Zb,Zb,hk];rfl
 | []=>rw [hk] at h;cases h
 | [_]=>rw [hk] at h;cases h
 | _::_::_::_=>rw [hk] at h;simp at h
theorem kids3{t:Nd}(h:t.kids.length=3):t.kids=[Zb t 0,Zb t 1,Zb t 2]:=by
 match hk:t.kids with
 | [a,b,c]=>rw [Zb,Zb,Zb,hk];rfl
 | []=>rw [hk] at h;cases h
 | [_]=>rw [hk] at h;cases h
 | [_,_]=>rw [hk] at h;cases h
 | _::_::_::_::_=>rw [hk] at h;simp at h
theorem cn1{t:Nd}(h:t.kids.length=1):count t=1+count (Zb t 0):=by rw [Uw,kids1 h];simp
theorem cn2{t:Nd}(h:t.kids.length=2):count t=1+count (Zb t 0)+count (Zb t 1):=by rw [Uw,kids2 h];simp;omega
theorem cn3{t:Nd}(h:t.kids.length=3):count t=1+count (Zb t 0)+count (Zb t 1)+count (Zb t 2):=by rw [Uw,kids3 h];simp;omega
theorem Yah{s:Bs}(h:opn (hd s)=true){c:UInt8}(hc:opn c=false):hd s≠c:=fun e=>by rw [e,hc] at h;cases h
theorem Hx.ne{s:Bs}(h:Hx s){c:UInt8}(hc:opn c=false):hd s≠c:=Yah h.o hc
def folB(r:Bs):Bool:=nb r&&(decide (hd r≠46)&&(decide (hd r≠91)&&decide (hd r≠40)))
structure Rx (t:Nd):Prop where
  e:exprB t=true→∀ k r f,folB r=true→Jzg r=none→10*count t≤f+2→pG f .e ((txT t).ex k++r)=some (stripT t,r)
  u:exprB t=true→t.kind≠32→∀ k r f,folB r=true→10*count t≤f+3→pG f .u ((txT t).ex k++r)=some (stripT t,r)
  s:exprB t=true→t.kind≠31→t.kind≠32→t.kind≠33→∀ k r f,nb r=true→10*count t≤f+4→∃ f',f+4≤f'+10*count t∧pG f .u ((txT t).ex k++r)=pG f' (.s (stripT t)) r
  b:blockB t=true→∀ k r f,10*count t≤f+2→pG f .b (((txT t).ls (k+1)++tabsL k)++([125]++r))=some (stripT t,r)
section
variable {p:Md→Bs→Option (Nd×Bs)}
end
def KdX(lo:Nat)(X:List Nat)(w:World)(ks:List Nd)(v:Value):Prop:=Kd w (fun k=>(lo≤k∧k∉X)∧NdR w k) ks v
section
variable {lo lo' n0 j b:Nat} {X:List Nat} {w w':World} {ks:List Nd} {v:Value}
theorem KdN.x(h:KdN lo w ks v)(hX:∀ j∈X,j<lo):KdX lo X w ks v:=Kd.mono h fun k hk _=>⟨⟨hk.1,fun hm=>by have:=hX k hm;omega⟩,hk.2⟩
theorem KdX.kdN(h:KdX lo X w ks v)(hl:lo'≤lo):KdN lo' w ks v:=Kd.mono h fun k hk _=>⟨Nat.le_trans hl hk.1.1,hk.2⟩
theorem KdX.grow(h:KdX lo X w ks v)(g:G w w'):KdX lo X w' ks v:=Zqa h (fun k hk _=>⟨hk.1,hk.2.grow g⟩) fun k hk hlt=>g.block hlt
theorem KdX.gt(h:KdX lo X w ks v)(g:GT mutR n0 w w'):KdX lo X w' ks v:=Zqa h (fun k hk _=>⟨hk.1,hk.2.gt g rfl⟩) fun k hk hlt=>g.block k hlt (.inr (hk.2.ntyr rfl))
theorem KdX.keep(h:KdX lo X w ks v)(hg:w.grownBy w' (some j))(hj:j<lo∨j∈X):KdX lo X w' ks v:=by
 have hne:∀ k,(lo≤k∧k∉X)→k≠j:=fun k hk e=>by
  subst e;rcases hj with hj|hj;omega;exact hk.2 hj
 have hs:∀ k,(lo≤k∧k∉X)→k<w.heap.size→w'.heap[k]? = w.heap[k]?:=fun k hk hlt=>hg.block k hlt fun e=>by injection e with e;exact hne k hk e
 exact Zqa h (fun k hk hlt=>⟨hk.1,hk.2.same (hs k hk.1 hlt)⟩) fun k hk hlt=>hs k hk.1 hlt
theorem KdX.new{e:TypeId}{l:List Value}(h:KdX lo X w ks v)(N:New w w' b e l):KdX lo (b::X) w' ks v:=by
 have:=N.at_
 exact Zqa h (fun k hk hlt=>⟨⟨hk.1.1,fun hm=>by
  rcases List.mem_cons.1 hm with e|e;omega;exact hk.1.2 e⟩,hk.2.grow N.g⟩) fun k hk hlt=>N.g.block hlt
theorem KdX.keepb{e:TypeId}{l:List Value}(h:KdX lo X w ks v)(hg:w.grownBy w' (some j))(hB:Blk w j e l)(he:Nat.beq e Ys=false):KdX lo X w' ks v:=by
 have hne:∀ k,NdR w k→k≠j:=fun k ⟨cs,fr,hk⟩ q=>by
  subst q;unfold Blk at hB;rw [hB] at hk;injection hk with hk;injection hk with _ hk;subst hk;simp at he
 exact Zqa h (fun k hk hlt=>⟨hk.1,hk.2.same (hg.block k hlt fun e=>by injection e with e;exact hne k hk.2 e)⟩) fun k hk hlt=>hg.block k hlt fun e=>by injection e with e;exact hne k hk.2 e
end
theorem OwnN.keept{Y:List Nat}{lo:Nat}{w w':World}{ks:List Nd}{s:Value}{j:Nat}{e:TypeId}{l:List Value}(h:OwnN Y lo w ks s)(hg:w.grownBy w' (some j))(hB:Blk w j e l)(he:Nat.beq e Ys=false):OwnN Y lo w' ks s:=by
 have hne:∀ k,NdR w k→k≠j:=fun k ⟨cs,fr,hk⟩ q=>by
  subst q;unfold Blk at hB;rw [hB] at hk;injection hk with hk;injection hk with _ hk;subst hk;simp at he
 have hnd:=h.nd;exact Xvb h (fun k hk hlt=>⟨hk.1,hk.2.same (hg.block k hlt fun e=>by injection e with e;exact hne k hk.2 e)⟩) (fun k hk hlt=>hg.block k hlt fun e=>by injection e with e;exact hne k hk.2 e) fun xs h'=>Xw h' hg (.inr fun e=>hne j (hnd j e) rfl)
theorem Ql{lo m0:Nat}{X Y:List Nat}{w:World}{t:Nd}{v s:Value}(h:KdX lo X w t.kids v)(hm:m0≤lo)(hY:∀ j∈Y,j∈X∨j<lo)(hs:∀ j,s.ownBlock=some j→j∈X∨j<lo):KRow w (fun k=>(Dx m0 Y k∧NdR w k)∧some k≠s.ownBlock) [t] (ndCells t v):=by
 refine Yc (Kd.mono h fun k hk _=>⟨⟨⟨Nat.le_trans hm hk.1.1,fun hy=>?_⟩,hk.2⟩,fun e=>?_⟩);rcases hY k hy with q|q;exact hk.1.2 q;have:=hk.1.1;omega;rcases hs k e.symm with q|q;exact hk.1.2 q;have:=hk.1.1;omega
@[reducible] def gtR(n0:Nat):RelX:=⟨fun w w'=>GT mutR n0 w w',GT.refl mutR n0,fun h k=>GT.trans h k⟩
theorem Wca{w:World}{D:Nat→Prop}{t:Nd}{p:Option Addr}{c:Nat}(hk:Kd w D t.kids (.slice p t.kids.length c)){i:Nat}(h:i<t.kids.length):D (pb p):=by
 obtain ⟨p',c',hpe,_,hks⟩:=hk;injection hpe with hpe _ hce;subst hpe hce;obtain ⟨b2,o2,rfl,hD,_⟩:=hks (by omega);exact hD
theorem Zr{t:Nd}{lo:Nat}{r v:Value}{w:World}(e:r=ndV t v)(h:KdN lo w t.kids v):RetN t lo r w:=e▸Yxf h
def CkM'(M:Nat)(F:Nd)(fn:FuncId)(t:Nd)(X:CSt→Nd×CSt):Prop:=∀ {n0 b:Nat} {S:CSt} {w:World} {v:Value} {N:Nat},Chk F n0 b S w→Kd w (fun k=>k<n0) t.kids v→Bd S N→N+count t≤M→
 Ret PP fn #[.pointer (some ⟨b,0,none⟩),ndV t v] w fun r w'=>RetN (X S).1 w.heap.size r w'∧Chk F n0 b (X S).2 w'∧GT mutR n0 w w'
abbrev CkC:=CkM' 1000000
theorem CkC.to{M:Nat}{F:Nd}{fn:FuncId}{t:Nd}{X:CSt→Nd×CSt}(H:CkM' M F fn t X){n0 b:Nat}{S:CSt}{w:World}{v:Value}{N m0:Nat}(Z:List Nat)(h:Chk F n0 b S w)(hk:Kd w (fun k=>k<n0) t.kids v)(hb:Bd S N)(hc:N+count t≤M)(hZ:∀ j∈Z,j<w.heap.size)(hm:m0≤w.heap.size) :
 Ret PP fn #[.pointer (some ⟨b,0,none⟩),ndV t v] w fun r w'=>(∃ p c,r=ndV (X S).1 (.slice p (X S).1.kids.length c)∧m0≤w.heap.size∧KdX w.heap.size Z w' (X S).1.kids (.slice p (X S).1.kids.length c))∧Chk F n0 b (X S).2 w'∧GT mutR n0 w w' :=
 (H h hk hb hc).mono fun r w' hr=>by
 obtain ⟨⟨p,c,e,k⟩,h1,h2⟩:=hr;exact ⟨⟨p,c,e,hm,KdN.x k hZ⟩,h1,h2⟩
def CkM(F:Nd)(t:Nd):Prop:=∀ {n0 b:Nat} {S:CSt} {w:World} {v:Value} {N:Nat},Chk F n0 b S w→Kd w (fun k=>k<n0) t.kids v→Bd S N→N+count t≤1000000→
 Ret PP Uja #[.pointer (some ⟨b,0,none⟩),ndV t v] w fun r w'=>(∃ u,r = .tuple #[u,.bool ((ckT F t).mem S).1.2]∧RetN ((ckT F t).mem S).1.1 w.heap.size u w')∧Chk F n0 b ((ckT F t).mem S).2 w'∧GT mutR n0 w w'
def CkR(F:Nd)(t:Nd):Prop:=∀ {n0 b:Nat} {S:CSt} {w:World} {v:Value} {N:Nat},Chk F n0 b S w→Kd w (fun k=>k<n0) t.kids v→Bd S N→N+count t≤1000000→
 Ret PP Vfa #[.pointer (some ⟨b,0,none⟩),ndV t v] w fun r w'=>(∃ u,r = .tuple #[u,.bool ((ckT F t).rcv S).2]∧RetN ((ckT F t).rcv S).1 w.heap.size u w')∧G w w'
def RowT(w:World)(l:List Ty)(v:Value):Prop:=∃ p c,v = .slice p l.length c∧(0<l.length→∃ b o cs fr,p=some ⟨b,o,none⟩∧w.heap[b]? = some (.cells cs Jj fr)∧RowAt w b o (l.flatMap tyCells))
def CkL(F:Nd)(t:Nd):Prop:=∀ {n0 b:Nat} {S:CSt} {w:World} {v:Value} {N:Nat},Chk F n0 b S w→Kd w (fun k=>k<n0) t.kids v→Bd S N→N+count t≤1000000→
 Ret PP Uma #[.pointer (some ⟨b,0,none⟩),ndV t v] w fun r w'=>(∃ u l,r = .tuple #[u,l,tyV ((ckT F t).cal S).1.2.2]∧RetN ((ckT F t).cal S).1.1 w.heap.size u w'∧RowT w' ((ckT F t).cal S).1.2.1 l)∧Chk F n0 b ((ckT F t).cal S).2 w'∧GT mutR n0 w w'
structure CkOk (F t:Nd):Prop where
  ex:exprB t=true→CkC F Qf t (ckT F t).ex
  st:stmtB t=true→CkC F Yha t (ckT F t).st
  blk:blockB t=true→CkC F Zza t (ckT F t).blk
  sts:blockB t=true→CkM' 1000001 F Jw t (ckT F t).sts
  ifs:ifB t=true→CkC F Zta t (ckT F t).ifs
  mem:exprB t=true→t.kind=28→CkM F t
  rcv:exprB t=true→CkR F t
  cal:exprB t=true→CkL F t
theorem Jkd(F k:Nd)(S:CSt):Stp (count k) S (condR k (ckT F k) S).2:=by
 unfold condR;cases decide (k.kind=9);exact ((Wbb F k).ex S).failu _ _ _;exact (Stp.refl S).mono (Nat.zero_le _)
theorem Uee{F t:Nd}(hx:t.kind≠9→CkC F Qf t (ckT F t).ex):CkC F Yba t (condR t (ckT F t)):=by
 intro n0 b S w v N h hk0 hb hcn;obtain ⟨p,c,rfl,_⟩:=id hk0;have hlt:=h.lt;have g:=GT.refl mutR n0 w;refine WK 20 [0,1] Jva ?_;refine BM fun b3 _ ga _ g E=>?_;have h:=Ui h;have hk0:=Ui hk0;refine AN fun b4 _ ga _ g E=>?_;have h:=Ui h;have hk0:=Ui hk0;refine IF (fun h1=>?_) fun h1=>?_;replace h1:t.kind=9:=of_decide_eq_true h1;refine AU ?_;refine CL (Vq t _ _ _) ?_;rintro _ _ ⟨rfl,ga⟩;refine RC fun g E=>?_;have h:=Uk h;refine AS fun _ ga Ca g E=>?_;have h:=Ub h;refine RTN ?_;have e:condR t (ckT F t) S=(clnT t,S):=by unfold condR;rw [Weh h1];rfl
 rw [e];exact ⟨Zr (t:=clnT t) rfl (Wv _ _),h,g⟩;replace h1:t.kind≠9:=of_decide_eq_false h1;refine AU ?_;refine CL (CkC.to (hx h1) [b3,b4] h hk0 hb hcn (E.ltm (by simp [selB])) g.size) ?_;rintro _ _ ⟨⟨p13,c13,rfl,q13,k13⟩,h,ga⟩;refine RC fun g E=>?_;refine AN fun _ _ ga _ g E=>?_;have k13:=Uj k13;have h:=Ui h;refine AS fun _ ga Ca g E=>?_;have h:=Ub h;have k13:=Ua k13;refine AU ?_;refine CL (Xda ((ckT F t).ex S).1 _ _ 2 t.pos h) ?_;rintro _ _ ⟨rfl,h,ga⟩;refine RC fun g E=>?_;have k13:=Ul k13;refine AS fun _ ga Ca g E=>?_;have h:=Ub h;have k13:=Ua k13;refine RTN ?_;have e:condR t (ckT F t) S=(((ckT F t).ex S).1,wantS ((ckT F t).ex S).1 2 t.pos ((ckT F t).ex S).2):=by unfold condR;rw [Wdh h1];rfl
 rw [e];exact ⟨Zr rfl (k13.kdN q13),h,g⟩
theorem Ucf{F t:Nd}(hx:CkM' 1000001 F Jw t (ckT F t).sts):CkC F Zza t (ckT F t).blk:=by
 intro n0 b S w v N h hk0 hb hcn;have e:(ckT F t).blk S=(((ckT F t).sts (openS S)).1,shutS ((ckT F t).sts (openS S)).2):=by rw [Yxa];rfl
 rw [e];obtain ⟨p,c,rfl,_⟩:=id hk0;have hlt:=h.lt;have hsc:=hb.sc;have ct:=Uo t;have hbo:Bd (openS S) (N+1):=⟨by have:=hb.vl;show S.vars.length≤_;omega,by have:=hb.nl;show S.next.length≤_;omega,fun k hk=>by have:=hb.nx k hk;omega,hb.lv,by show S.scope+1≤_;omega,fun v hv=>by have:=hb.vs v hv;omega⟩;have hs:=(Wbb F t).sts (openS S);have hbs:=hs.bd _ hbo;have hs1:1≤((ckT F t).sts (openS S)).2.scope:=by rw [hs.scope];exact Nat.le_add_left 1 _
 have hs2:=hbs.sc;have hs3:=hbs.vl;have hs4:((ckT F t).sts (openS S)).2.scope≤100000000:=by omega
 have hs5:((ckT F t).sts (openS S)).2.vars.length≤100000000:=by omega
 have g:=GT.refl mutR n0 w;refine WK 14 [0,1] Wxb ?_;refine BM fun b3 _ ga _ g E=>?_;have h:=Ui h;have hk0:=Ui hk0;refine AN fun b4 _ ga _ g E=>?_;have h:=Ui h;have hk0:=Ui hk0;refine AU ?_;refine CL (Ude h (by omega)) ?_;rintro _ _ ⟨rfl,h,ga⟩;refine RC fun g E=>?_;have hk0:=Um hk0;refine AU ?_;refine CL (CkC.to (hx) [b3,b4] h hk0 hbo (by omega) (E.ltm (by simp [selB])) g.size) ?_;rintro _ _ ⟨⟨p10,c10,rfl,q10,k10⟩,h,ga⟩;refine RC fun g E=>?_;refine AN fun _ _ ga _ g E=>?_;have k10:=Uj k10;have h:=Ui h;refine AS fun _ ga Ca g E=>?_;have h:=Ub h;have k10:=Ua k10;refine AU ?_;refine CL (Udc h hs4 hs1 hs5) ?_;rintro _ _ ⟨rfl,h,ga⟩;refine RC fun g E=>?_;have k10:=Ul k10;refine AS fun _ ga Ca g E=>?_;have h:=Ub h;have k10:=Ua k10;refine RTN ?_;exact ⟨Zr rfl (k10.kdN q10),h,g⟩
theorem Ybh{F t:Nd}(K:∀ i,i<t.kids.length→CkOk F (Zb t i))(hx:ifB t=true):CkC F Zta t (ckT F t).ifs:=by
 intro n0 b S w v N h hk0 hb hcn;obtain ⟨hl,he,hb1,hh2⟩:=sh18 hx
 have e:(ckT F t).ifs S=ifR t (fun i=>ckT F (Zb t i)) S:=by
  rw [Yxa];show ifR t (ckX F t) S=_;unfold ifR;rw [Vv (show 0<t.kids.length by omega),Vv (show 1<t.kids.length by omega),Vv (show 2<t.kids.length by omega)]
 rw [e];obtain ⟨p,c,rfl,_⟩:=id hk0;have hlt:=h.lt;have hc3:=cn3 hl;have c0:=Uo (Zb t 0);have C0:CkC F Yba (Zb t 0) (condR (Zb t 0) (ckT F (Zb t 0))):=Uee (F:=F) (t:=Zb t 0) (fun _=>(K 0 (by omega)).ex he);have Q1:=K 1 (by omega);have Q2:=K 2 (by omega);have hbd1:=(Jkd F (Zb t 0) S).bd _ hb;have hbd2:=((Wbb F (Zb t 1)).blk (condR (Zb t 0) (ckT F (Zb t 0)) S).2).bd _ hbd1;have g:=GT.refl mutR n0 w;refine WK 55 [0,1] Xdb ?_;refine BM fun b3 _ ga _ g E=>?_;have h:=Ui h;have hk0:=Ui hk0;refine AN fun b4 _ ga _ g E=>?_;have h:=Ui h;have hk0:=Ui hk0;refine AU ?_;refine CL (Vq t _ _ _) ?_;rintro _ _ ⟨rfl,ga⟩;refine RC fun g E=>?_;have h:=Uk h;have hk0:=Uk hk0;refine AN fun b5 _ ga _ g E=>?_;have h:=Ui h;have hk0:=Ui hk0;refine AS fun _ ga Ca g E=>?_;have h:=Ub h;have hk0:=Ud hk0;obtain ⟨hpe,p_14,c_14,hcell,hkid⟩:=Yl hk0 (i:=0) (by omega);refine AU ?_;refine CL (CkC.to (C0) [b3,b4,b5] h hkid hb (by omega) (E.ltm (by simp [selB])) g.size) ?_;rintro _ _ ⟨⟨p16,c16,rfl,q16,k16⟩,h,ga⟩;refine RC fun g E=>?_;have hk0:=Um hk0;refine AN fun b6 _ ga _ g E=>?_;have k16:=Uj k16;have h:=Ui h;have hk0:=Ui hk0;refine AS fun _ ga Ca g E=>?_;have h:=Ub h;have hk0:=Ud hk0;have k16:=Ua k16;obtain ⟨hpe,p_20,c_20,hcell,hkid⟩:=Yl hk0 (i:=1) (by omega);refine AU ?_;refine CL (CkC.to (Q1.blk hb1) [b3,b4,b5,b6] h hkid hbd1 (by omega) (E.ltm (by simp [selB])) g.size) ?_;rintro _ _ ⟨⟨p22,c22,rfl,q22,k22⟩,h,ga⟩;refine RC fun g E=>?_;have hk0:=Um hk0;have k16:=Ul k16;refine AN fun b7 _ ga _ g E=>?_;have k16:=Uj k16;have k22:=Uj k22;have h:=Ui h;have hk0:=Ui hk0;refine AS fun _ ga Ca g E=>?_;have h:=Ub h;have hk0:=Ud hk0;have k16:=Ua k16;have k22:=Ua k22
 obtain ⟨hpe,p_25,c_25,hcell,hkid⟩:=Yl hk0 (i:=2) (by omega);refine AU ?_;refine CL (Vq (Zb t 2) _ _ _) ?_;rintro _ _ ⟨rfl,ga⟩;refine RC fun g E=>?_;have h:=Uk h;have hk0:=Uk hk0;have k16:=Uk k16;have k22:=Uk k22;refine AN fun b8 _ ga _ g E=>?_;have k16:=Uj k16;have k22:=Uj k22;have h:=Ui h;have hk0:=Ui hk0;refine AS fun _ ga Ca g E=>?_;have h:=Ub h;have hk0:=Ud hk0;have k16:=Ua k16;have k22:=Ua k22;obtain ⟨hpe,p_30,c_30,hcell,hkid⟩:=Yl hk0 (i:=2) (by omega);refine IF (fun h1=>?_) fun h1=>?_;replace h1:(Zb t 2).kind=10:=of_decide_eq_true h1;have hb2:blockB (Zb t 2)=true:=hh2.elim id fun h=>h.elim (fun h=>absurd (of_decide_eq_true (Bool.and_eq_true_iff.1 h).1) (by omega)) fun h=>absurd (Wba h).1 (by omega);obtain ⟨hpe,p_38,c_38,hcell,hkid⟩:=Yl hk0 (i:=2) (by omega);refine AU ?_;refine CL (CkC.to (Q2.blk hb2) [b3,b4,b5,b6,b7,b8] h hkid hbd2 (by omega) (E.ltm (by simp [selB])) g.size) ?_;rintro _ _ ⟨⟨p40,c40,rfl,q40,k40⟩,h,ga⟩;refine RC fun g E=>?_;have k16:=Ul k16;have k22:=Ul k22;refine AS fun _ ga Ca g E=>?_;have h:=Ub h;have k16:=Ua k16;have k22:=Ua k22;have k40:=Ua k40;refine CN fun _ _ ga l52 g E=>?_;have k16:=Uj k16;have k22:=Uj k22;have k40:=Uj k40;have h:=Ui h;refine AS fun _ ga Ca g E=>?_;have h:=Ub h;have k16:=Ua k16;have k22:=Ua k22;have k40:=Ua k40;refine AS fun _ ga Ca g E=>?_;have h:=Ub h;have k16:=Ua k16;have k22:=Ua k22;have k40:=Ua k40;refine RTN ?_;unfold ifR;dsimp only;rw [Weh h1];exact ⟨Zr (t:=annT t [_,_,_] ty0) rfl (Xm (ks:=[_,_,_]) ⟨l52,Xa E.g0⟩ E.g0.row (Xj (k16.kdN q16) (Xj (k22.kdN q22) (Yc (k40.kdN q40)))) (Nat.le_refl _)),h,g⟩;replace h1:(Zb t 2).kind≠10:=of_decide_eq_false h1
 refine IF (fun h2=>?_) fun h2=>?_;replace h2:(Zb t 2).kind=18:=of_decide_eq_true h2;have hi2:ifB (Zb t 2)=true:=hh2.elim (fun h=>absurd (Zmb h) (by omega)) fun h=>h.elim id fun h=>absurd (Wba h).1 (by omega);obtain ⟨hpe,p_46,c_46,hcell,hkid⟩:=Yl hk0 (i:=2) (by omega);refine AU ?_;refine CL (CkC.to (Q2.ifs hi2) [b3,b4,b5,b6,b7,b8] h hkid hbd2 (by omega) (E.ltm (by simp [selB])) g.size) ?_;rintro _ _ ⟨⟨p48,c48,rfl,q48,k48⟩,h,ga⟩;refine RC fun g E=>?_;have k16:=Ul k16;have k22:=Ul k22;refine AS fun _ ga Ca g E=>?_;have h:=Ub h;have k16:=Ua k16;have k22:=Ua k22;have k48:=Ua k48;refine CN fun _ _ ga l52 g E=>?_;have k16:=Uj k16;have k22:=Uj k22;have k48:=Uj k48;have h:=Ui h;refine AS fun _ ga Ca g E=>?_;have h:=Ub h;have k16:=Ua k16;have k22:=Ua k22;have k48:=Ua k48;refine AS fun _ ga Ca g E=>?_;have h:=Ub h;have k16:=Ua k16;have k22:=Ua k22;have k48:=Ua k48;refine RTN ?_;unfold ifR;dsimp only;rw [Wdh h1,Weh h2];exact ⟨Zr (t:=annT t [_,_,_] ty0) rfl (Xm (ks:=[_,_,_]) ⟨l52,Xa E.g0⟩ E.g0.row (Xj (k16.kdN q16) (Xj (k22.kdN q22) (Yc (k48.kdN q48)))) (Nat.le_refl _)),h,g⟩;replace h2:(Zb t 2).kind≠18:=of_decide_eq_false h2;refine CN fun _ _ ga l52 g E=>?_;have k16:=Uj k16;have k22:=Uj k22;have h:=Ui h;refine AS fun _ ga Ca g E=>?_;have h:=Ub h;have k16:=Ua k16;have k22:=Ua k22;refine AS fun _ ga Ca g E=>?_;have h:=Ub h;have k16:=Ua k16;have k22:=Ua k22;refine RTN ?_;unfold ifR;dsimp only;rw [Wdh h1,Wdh h2];exact ⟨Zr (t:=annT t [_,_,clnT (Zb t 2)] ty0) rfl (Xm (ks:=[_,_,clnT (Zb t 2)]) ⟨l52,Xa E.g0⟩ E.g0.row (Xj (k16.kdN q16) (Xj (k22.kdN q22) (Yc (Wv _ _)))) (Nat.le_refl _)),h,g⟩
end Go.Rk
