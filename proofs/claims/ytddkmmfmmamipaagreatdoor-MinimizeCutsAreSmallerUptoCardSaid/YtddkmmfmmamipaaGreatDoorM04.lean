/- Merged texts. Conditions: each text's own. -/
import Derived.Test.YtddkmmfmmamipaaGreatDoorM02
import Derived.Test.YtddkmmfmmamipaaGreatDoorM01
import Derived.Test.YtddkmmfmmamipaaGreatDoorM03
import Derived.Lib.ItoaNum
import Derived.Laws.MakeOwn
import Derived.Laws.BytesString
import Derived.Lib.ConvBytes
import Derived.Lib.AtoiErrMem
import Derived.Laws.OwnMore
set_option linter.unusedSimpArgs false
set_option linter.unusedVariables false
set_option maxHeartbeats 16000000
set_option maxRecDepth 100000
open Bool renaming and_eq_true→Ap,or_eq_true→Bh,and_eq_true_iff→CW,not_true→Eb,not_false→EG,and_true→Gz,or_eq_false_iff→Ik
open Go renaming World→Ad,TypeId→Aw,Value→Bd
open Go.Result renaming andThen_ok→A7
open Go.Value renaming slice→BH
open List renaming mem_cons→Cl,not_mem_nil→CQ,getElem?_eq_getElem→Dv,length_append→DF,length_take→DV,getElem_mem→Ei,forall_mem_cons→Fe,take_length→FB,length_set→Fy,getElem?_set_self→FP,getElem?_set_ne→FS,all_eq_true→F9,eq_nil_or_concat→Gg,concat_eq_append→Gx,reverse_append→GB,reverse_singleton→G0,singleton_append→Hf,getElem?_append_left→HJ,getElem?_append_right→HA,dropLast_concat→Ic,forall_mem_nil→It,mem_of_find?_eq_some→IG,drop_eq_getElem_cons→Jb,take_succ_eq_append_getElem→Jo,getElem?_take→I4,mem_cons_of_mem→Jm,getElem?_eq_some_iff→Ka,getElem?_eq_none→J9
open Nat renaming le_refl→AN,beq→BM,zero_le→Cr,le_trans→Dg,lt_of_lt_of_le→E1,sub_self→HN,zero_add→HZ,mul_le_mul_right→Ih,eq_of_beq_eq_true→Ke
open Decidable renaming decide→Ae
namespace Go.Proofs
end Go.Proofs
namespace Go.Rk
open Go.Proofs
open Go Go.RowKit
def LL(M:Nat→Nat→Bool)(w:Ad)(k:Nat):Prop:=∃ cs e fr,w.heap[k]? = some (.cells cs e fr)∧M e k=true
structure AP (M:Nat→Nat→Bool) (n0:Nat) (w w':Ad):Prop where
  os:w'.os=w.os
  tape:w'.tape=w.tape
  output:w'.output=w.output
  size:w.heap.size≤w'.heap.size
  block:∀ k,k<w.heap.size→(k<n0∨¬ LL M w k)→w'.heap[k]? = w.heap[k]?
section
variable {M:Nat→Nat→Bool} {n0:Nat}
theorem AP.refl(M:Nat→Nat→Bool)(n0:Nat)(w:Ad):AP M n0 w w:=⟨rfl,rfl,rfl,AN _,fun _ _ _=>rfl⟩
theorem AP.trans{u v w:Ad}(h:AP M n0 u v)(k:AP M n0 v w):AP M n0 u w :=
 ⟨k.os.trans h.os,k.tape.trans h.tape,k.output.trans h.output,Dg h.size k.size,fun i hi hb=>by
 have e:=h.block i hi hb;refine (k.block i (E1 hi h.size) (hb.imp id fun hb hr=>hb ?_)).trans e;obtain ⟨cs,f,fr,hr,hm⟩:=hr;exact ⟨cs,f,fr,e.symm.trans hr,hm⟩⟩
theorem AP.J{w w':Ad}(h:G w w'):AP M n0 w w':=⟨h.os,h.tape,h.output,h.size,fun k hk _=>h.block hk⟩
theorem Ng{a w:Ad}(g:AP M n0 a w):AP M n0 a w.drew:=g.trans (AP.J (G.drew _))
theorem Oj{p A B:Prop}(h:A→B→p)(k:(A→B→p)→p:=by exact fun z=>z (Ng g) E.dr):p:=k h
theorem Db{p A B C:Prop}(h:A→B→C→p)(k:(A→B→C→p)→p:=by exact fun z=>z (Ng g) E.dr (h.a (G.drew _))):p:=k h
theorem Cc{a w w':Ad}(g:AP M n0 a w)(h:G w w'):AP M n0 a w':=g.trans (AP.J h)
theorem Oz{w0 w w':Ad}(g:G w0 w)(h:AP M n0 w w')(hn:w0.heap.size≤n0):G w0 w' :=
 ⟨h.os.trans g.os,h.tape.trans g.tape,h.output.trans g.output,Dg g.size h.size,fun k hk=>(h.block k (E1 hk g.size) (.inl O)).trans (g.block hk)⟩
theorem EY{w0 w w':Ad}{row:Option Nat}(h:AP M n0 w0 w)(hg:w.grownBy w' row)(hr:∀ k,row=some k→w0.heap.size≤k):AP M n0 w0 w' :=
 ⟨hg.os.trans h.os,hg.tape.trans h.tape,hg.output.trans h.output,Dg h.size hg.size,fun k hk hb=>(hg.block k (E1 hk h.size) (fun e=>by have:=hr k e.symm;omega)).trans (h.block k hk hb)⟩
theorem CC{w0 w w':Ad}{j:Nat}(h:AP M n0 w0 w)(hg:w.grownBy w' (some j))(hj:w0.heap.size≤j):AP M n0 w0 w' :=
 EY h hg fun k hk=>by injection hk with hk;omega
theorem Xc{w0 w w':Ad}{row:Option Nat}(h:AP M n0 w0 w)(hg:w.grownBy w' row)(hr:∀ k,row=some k→n0≤k∧LL M w k):AP M n0 w0 w' :=
 ⟨hg.os.trans h.os,hg.tape.trans h.tape,hg.output.trans h.output,Dg h.size hg.size,fun k hk hb=>(hg.block k (E1 hk h.size) (fun e=>by
 obtain ⟨h1,h2⟩:=hr k e.symm;rcases hb with hb|hb;omega;obtain ⟨cs,f,fr,h3,h4⟩:=h2;exact hb ⟨cs,f,fr,(h.block k hk (.inr hb)).symm.trans h3,h4⟩)).trans (h.block k hk hb)⟩
theorem aF{w:Ad}{b:Nat}{e:Aw}{l:List Bd}(h:Av w b e l)(he:M e=fun _=>true):LL M w b:=⟨_,_,_,h,congrFun he b⟩
theorem Ru{w:Ad}{b:Nat}{e:Aw}{l:List Bd}(h:Av w b e l)(he:M e=fun _=>false):¬ LL M w b:=fun ⟨cs,f,fr,hr,hm⟩=>by
 unfold Av at h;rw [h] at hr;injection hr with hr;injection hr with _ hr;subst hr;rw [he] at hm;cases hm
theorem Qy{w:Ad}{e:Aw}{z m:Nat}{v:Bd}{xs:List Bd}(h:w.ownsRow n0 e z v m xs)(he:M e=fun _=>true):∀ k,v.ownBlock=some k→n0≤k∧LL M w k:=fun k hk=>by
 rcases h.2 with ⟨h1,_⟩|⟨g,aa,ab,h1,h2,h3,_⟩;rw [h1] at hk;cases hk;rw [h1] at hk;have:g=k:=by injection hk
 subst this;exact ⟨h2,_,_,_,h3,congrFun he _⟩
theorem Jl{w0 w w':Ad}{b:Nat}{e:Aw}{l:List Bd}(h:AP M n0 w0 w)(hg:w.grownBy w' (some b))(hB:Av w b e l)(he:M e=fun _=>true)(hb:n0≤b):AP M n0 w0 w' :=
 Xc h hg fun k hk=>by injection hk with hk;subst hk;exact ⟨hb,aF hB he⟩
theorem fF{w0 w w':Ad}{e:Aw}{z m:Nat}{v:Bd}{xs:List Bd}(h:AP M n0 w0 w)(hO:w.ownsRow n0 e z v m xs)(he:M e=fun _=>true)(hg:w.grownBy w' v.ownBlock):AP M n0 w0 w' :=
 Xc h hg (Qy hO he)
theorem Av.gt{j:Nat}{w w':Ad}{e:Aw}{l:List Bd}(h:Av w j e l)(g:AP M n0 w w')(he:M e=fun _=>false):Av w' j e l :=
 (g.block j h.lt (.inr (Ru h he))).trans h
theorem BT.gt{w w':Ad}{L:List (Nat×Aw×List Bd)}(E:BT w L)(g:AP M n0 w w')(ht:(L.all fun x=>!M x.2.1 x.1)=true):BT w' L :=
 ⟨E.1,Ov E.2 fun b e l hm h=>(g.block b h.lt (.inr fun ⟨cs,f,fr,hr,hM⟩=>by
 unfold Av at h;rw [h] at hr;injection hr with hr;injection hr with _ hr;subst hr;have:=F9.1 ht _ hm;simp [hM] at this)).trans h⟩
theorem Bo.gt{w w':Ad}{D:Nat→Prop}{ks:List Nd}{v:Bd}(h:Bo w D ks v)(g:AP M n0 w w')(hD:∀ k,D k→k<n0):Bo w' D ks v :=
 He h (fun _ h _=>h) fun k hk aa=>g.block k aa (.inl (hD k hk))
theorem Cv.gt{j o:Nat}{w w':Ad}{l:List Bd}(h:Cv w j o l)(g:AP M n0 w w')(hj:j<n0):Cv w' j o l:=fun i v hi=>by
 have h1:=h i v hi;exact (World.cell?_of_block (g.block j (World.block_lt_of_cell? w _ h1) (.inl hj))).trans h1
def G6(w:Ad)(k:Nat):Prop:=∃ cs fr,w.heap[k]? = some (.cells cs 26 fr)
theorem G6.lt{w:Ad}{k:Nat}(h:G6 w k):k<w.heap.size:=by
 obtain ⟨cs,fr,h⟩:=h;exact (Array.getElem?_eq_some_iff.1 h).1
theorem DK{w:Ad}{b:Nat}{l:List Bd}(h:Av w b 26 l):G6 w b:=⟨_,_,h⟩
theorem G6.ac{w w':Ad}{k:Nat}(h:G6 w k)(e:w'.heap[k]? = w.heap[k]?):G6 w' k:=by
 obtain ⟨cs,fr,h⟩:=h;exact ⟨cs,fr,e.trans h⟩
theorem G6.av{w:Ad}{k:Nat}(h:G6 w k)(he:M 26=fun _=>false):¬ LL M w k:=fun ⟨cs,f,fr,hr,hm⟩=>by
 obtain ⟨aa,ab,h⟩:=h;rw [h] at hr;injection hr with hr;injection hr with _ hr;subst hr;rw [he] at hm;cases hm
theorem G6.gt{w w':Ad}{k:Nat}(h:G6 w k)(g:AP M n0 w w')(he:M 26=fun _=>false):G6 w' k:=h.ac (g.block k h.lt (.inr (h.av he)))
theorem G6.a{w w':Ad}{k:Nat}(h:G6 w k)(g:G w w'):G6 w' k:=h.ac (g.block h.lt)
def FN(lo:Nat)(w:Ad)(ks:List Nd)(v:Bd):Prop:=Bo w (fun k=>lo≤k∧G6 w k) ks v
theorem FN.gt{lo:Nat}{w w':Ad}{ks:List Nd}{v:Bd}(h:FN lo w ks v)(g:AP M n0 w w')(he:M 26=fun _=>false):FN lo w' ks v :=
 He h (fun k hk _=>⟨hk.1,hk.2.gt g he⟩) fun k hk aa=>g.block k aa (.inr (hk.2.av he))
theorem FN.a{lo:Nat}{w w':Ad}{ks:List Nd}{v:Bd}(h:FN lo w ks v)(g:G w w'):FN lo w' ks v :=
 He h (fun k hk _=>⟨hk.1,hk.2.a g⟩) fun k hk aa=>g.block aa
theorem FN.A{lo:Nat}{w w':Ad}{row:Option Nat}{ks:List Nd}{v:Bd}(h:FN lo w ks v)(hg:w.grownBy w' row)(hr:∀ k,row=some k→k<lo):FN lo w' ks v :=
 He h (fun k hk aa=>⟨hk.1,hk.2.ac (hg.block k aa fun e=>by have:=hr k e.symm;omega)⟩) fun k hk aa=>hg.block k aa fun e=>by have:=hr k e.symm;omega
theorem FN.a1{lo lo':Nat}{w:Ad}{ks:List Nd}{v:Bd}(h:FN lo w ks v)(hl:lo'≤lo):FN lo' w ks v:=Bo.mono h fun k hk _=>⟨O,hk.2⟩
theorem Iz(lo:Nat)(w:Ad):FN lo w [] (.slice none 0 0):=Me _ _
def IM(t:Nd)(lo:Nat)(r:Bd)(w:Ad):Prop:=∃ p c,r=BV t (.slice p t.b.length c)∧FN lo w t.b (.slice p t.b.length c)
theorem OU(t:Nd)(lo:Nat)(w:Ad)(h:t.b=[]):IM t lo (BV t (.slice none 0 0)) w:=⟨none,0,by rw [h];rfl,by rw [h];exact Iz _ _⟩
theorem Wq{t:Nd}{lo:Nat}{v:Bd}{w:Ad}(h:FN lo w t.b v):IM t lo (BV t v) w:=by
 obtain ⟨p,c,rfl,h2⟩:=h;exact ⟨p,c,rfl,p,c,rfl,h2⟩
def Dl(X:List Nat)(lo:Nat)(w:Ad)(ks:List Nd)(s:Bd):Prop:=D5 26 (fun b=>IQ lo X b∧G6 w b) lo w ks s
section
variable {X:List Nat} {lo:Nat} {w w':Ad} {ks:List Nd} {s:Bd}
theorem Kq(X:List Nat)(lo:Nat)(w:Ad):Dl X lo w [] (.slice none 0 0):=So _ _ _ _
theorem Dl.slice(h:Dl X lo w ks s):∃ a c,s = .slice a ks.length c:=D5.slice h
theorem Dl.ge(h:Dl X lo w ks s):∀ k,s.ownBlock=some k→lo≤k:=D5.ge h
theorem Dl.lt(h:Dl X lo w ks s):∀ k,s.ownBlock=some k→k<w.heap.size:=D5.lt h
theorem Dl.W(h:Dl X lo w ks s){b:Nat}(hb:b∈X):some b≠s.ownBlock:=D5.W h fun hd=>hd.1.2 hb
theorem Dl.nd(h:Dl X lo w ks s):∀ k,s.ownBlock=some k→G6 w k:=fun k hk=>by
 obtain ⟨xs,_,_,h3⟩:=h;exact (h3 k hk).2
theorem QD{e:Aw}{D D':Nat→Prop}{base:Nat}(h:D5 e D base w ks s)(hD:∀ b,D b→b<w.heap.size→D' b)(hs:∀ b,D b→b<w.heap.size→w'.heap[b]? = w.heap[b]?)(ho:∀ xs,w.ownsRow base e 9 s ks.length xs→w'.ownsRow base e 9 s ks.length xs):D5 e D' base w' ks s:=by
 obtain ⟨xs,h1,h2,h3⟩:=h;exact ⟨xs,ho xs h1,Lx (fun b hb aa=>⟨hD b hb.1 aa,hb.2⟩) (fun b hb aa=>hs b hb.1 aa) _ _ h2,fun b hb=>hD b (h3 b hb) (h1.lt b hb).2⟩
theorem Dl.a(h:Dl X lo w ks s)(g:G w w'):Dl X lo w' ks s :=
 QD h (fun b hb _=>⟨hb.1,hb.2.a g⟩) (fun b _ aa=>g.block aa) fun xs h=>D7 h g
theorem Pq{e:Aw}{base z m:Nat}{v:Bd}{xs:List Bd}(h:w.ownsRow base e z v m xs)(hs:∀ b,v.ownBlock=some b→w'.heap[b]? = w.heap[b]?):w'.ownsRow base e z v m xs:=by
 refine ⟨h.1,?_⟩;rcases h.2 with h1|⟨g,ab,aa,h1,h2,h3,h4⟩;exact .inl h1;exact .inr ⟨g,ab,aa,h1,h2,(hs g (by rw [h1];rfl)).trans h3,h4⟩
theorem Dl.gt(h:Dl X lo w ks s)(g:AP M n0 w w')(he:M 26=fun _=>false):Dl X lo w' ks s:=by
 have hn:=h.nd;have hl:=h.lt;exact QD h (fun b hb _=>⟨hb.1,hb.2.gt g he⟩) (fun b hb aa=>g.block b aa (.inr (hb.2.av he))) fun xs h=>Pq h fun b hb=>g.block b (hl b hb) (.inr ((hn b hb).av he))
theorem Dl.A(h:Dl X lo w ks s){b:Nat}(hg:w.grownBy w' (some b))(hb:b∈X):Dl X lo w' ks s:=by
 have ab:=h.W hb;refine QD h (fun k hk aa=>⟨hk.1,hk.2.ac (hg.block k aa fun e=>by injection e with e;exact hk.1.2 (e▸hb))⟩) (fun k hk aa=>hg.block k aa fun e=>by injection e with e;exact hk.1.2 (e▸hb)) fun xs h=>Df h hg (.inr fun e=>ab e.symm)
theorem Dl.kd(h:Dl X lo w ks s):FN lo w ks s:=D5.kd h fun b hb=>⟨hb.1.1,hb.2⟩
end
end
section
variable {P:Program} {Z:List PanicEntry→Act→Ad→Prop} {ops:List Oper} {cl:List Nat} {lv:List Bool} {W0:Ad} {n:Nat} {H':Act→Ad→Prop} {k:Nat} {rest:List Oper} {σ:List Ce} {w:Ad} {d:Nat} {ty:Aw} {pos:String} {after:Array Edge}
theorem Hq{t q q':Nat}{x y:Operand}{s zv:Bd}{news:List Bd}{b' o' lo:Nat}{X:List Nat}{ks ls:List Nd}(hb:(BM (Bw cl k) 2&&Nat.blt d n)=true)(ht:FQ P t=some (26,9,104))(ai:Gc P 26=some zv)
 (af:zv.cells.size=9) (hx:Bz n σ True x s) (hO:Dl X lo w ks s) (hy:Bz n σ True y (.slice (some ⟨b',o',none⟩) q q')) (hq:ls.length=q) (hn:Cv w b' o' news) (hK:D8 w (fun b=>(IQ lo X b∧G6 w b)∧some b≠s.ownBlock) ls news)
 (aj:ks.length+ls.length≤10000000) (ac:lo≤w.heap.size) (hD:IQ lo X w.heap.size)
 (h:∀ a' c' w',Dl X lo w' (ks++ls) (.slice a' (ks++ls).length c')→w.grownBy w' s.ownBlock→Bv P Z ops cl lv W0 n H' (k+1) rest ((d,True,.slice a' (ks++ls).length c') :: σ) w') :
 Bv P Z ops cl lv W0 n H' k (⟨some d,.call { callee:=.builtin .append,args:=#[x,y],argTypes:=#[t,t] },ty,pos,after,none⟩::rest) σ w:=by
 obtain ⟨xs,h1,h2,h3⟩:=id hO;subst hq;have ae:=PR hK;refine ID hb ht ai af Cb hx h1 hy (Nq hK) hn ae (by simp only [maxLen];omega) O ac fun a' c' w' ho hg ad=>?_;have aa:(ks++ls).length=ks.length+ls.length:=by simp
 have ah:∀ b,(BH a' (ks.length+ls.length) c').ownBlock=some b→G6 w' b:=fun b hb=>by
  rcases ho.2 with ⟨q1,_⟩|⟨g,ak,al,q1,_,q3,_⟩;rw [q1] at hb;cases hb;rw [q1] at hb;have:g=b:=by injection hb
  subst this;exact ⟨_,_,q3⟩
 have ag:Dl X lo w' (ks++ls) (.slice a' (ks++ls).length c'):=by
  refine ⟨xs++news,by rw [aa];exact ho,?_,?_⟩;rw [aa];refine Lx (fun b hb ab=>⟨⟨hb.1.1,hb.1.2.ac (hg.block b ab hb.2)⟩,?_⟩) (fun b hb ab=>hg.block b ab hb.2) _ _ (Rf h2 hK);rcases ad with he|he <;> rw [he]
  exact hb.2;intro e;injection e with e;omega;rw [aa];intro b hb;refine ⟨?_,ah b hb⟩;rcases ad with he|he <;> rw [he] at hb
  exact (h3 b hb).1;injection hb with hb;exact hb▸hD
 have:=h a' c' w' ag hg;rwa [DF] at this
end
section
variable {w w':Ad} {base:Nat} {e:Aw} {z m q:Nat} {v:Bd} {o:Option Addr} {xs:List Bd}
theorem Rn{j:Nat}(h:w.ownsRow base e z (.slice o m q) m xs)(hj:j≤m):w.ownsRow base e z (.slice o j q) j (xs.take (j*z)):=by
 have hl:j*z≤m*z:=Ih z hj;refine ⟨by rw [DV,h.1];omega,?_⟩;rcases h.2 with ⟨h1,h2⟩|⟨g,ab,aa,h1,h2,h3,h4,h5,h6,h7⟩;injection h1 with e1 e2 e3;subst e1;subst e3;exact .inl ⟨by rw [show j=0 by omega],O⟩;injection h1 with e1 e2 e3;subst e1;subst e3;exact .inr ⟨g,q,aa,rfl,h2,h3,O,h5,h6,by rw [← h7,List.take_take,Nat.min_eq_left hl]⟩
theorem OZ(h:w.ownsRow base e z v m xs)(hm:0<m):∃ g c l,v = .slice (some ⟨g,0,none⟩) m c∧base≤g∧Av w g e l∧m≤c∧l.length=c*z∧l.take (m*z)=xs∧
 ∀ w' l',Av w' g e l'→l'.length=c*z→w'.ownsRow base e z v m (l'.take (m*z)):=by
 rcases h.2 with ⟨_,h2⟩|⟨g,aa,ab,h1,h2,h3,h4,h5,h6,h7⟩;omega;refine ⟨g,aa,ab.toList,h1,h2,by simpa [Av] using h3,h4,by simpa using h6,h7,fun w' l' hB hl=>⟨?_,.inr ⟨g,aa,l'.toArray,h1,h2,hB,h4,h5,by simpa using hl,by simp⟩⟩⟩;rw [DV,hl];have:=Ih z h4;omega
theorem take_set{α:Type}(l:List α)(i n:Nat)(u:α)(h:i<n):(l.set i u).take n=(l.take n).set i u:=by
 rw [List.take_set]
end
def DQ(e _k:Nat):Bool:=BM e 46 || (BM e 83 || BM e 3)
def PN(F:Nd)(fv sv sn:Bd)(S:An):List Bd:=Cs F fv++[sv,.int .i64 S.k,.int .i64 S.n,sn,.int .i64 S.o.c,Co S.o.name,.int .i64 S.ea,.int .i64 S.ee]
structure FY (F:Nd) (n0 b:Nat) (S:An) (fv sv sn:Bd) (w:Ad):Prop where
  B:Av w b 46 (PN F fv sv sn S)
  hb:n0≤b
  kF:Bo w (fun k=>k<n0) F.b fv
  hF:count F≤1000000
  ov:w.ownsRow n0 83 6 sv S.q.length (S.q.flatMap JB)
  on:w.ownsRow n0 3 1 sn S.next.length (S.next.map fun (k:Nat)=>Value.int .i64 (k:Int))
def D4(F:Nd)(n0 b:Nat)(S:An)(w:Ad):Prop:=∃ fv sv sn,FY F n0 b S fv sv sn w
section
variable {F:Nd} {n0 b:Nat} {S S':An} {fv sv sn sv' sn':Bd} {w w' w1 w2:Ad}
theorem DR{e e':Aw}{z m j:Nat}{v:Bd}{xs l:List Bd}(h:w.ownsRow n0 e z v m xs)(hB:Av w j e' l)(he:BM e e'=false):v.ownBlock≠some j:=fun hk=>by
 rcases h.2 with ⟨h1,_⟩|⟨g,aa,ab,h1,h2,h3,_⟩;rw [h1] at hk;cases hk;rw [h1] at hk;have:g=j:=by injection hk
 subst this;unfold Av at hB;rw [hB] at h3;injection h3 with h3;injection h3 with _ h3;subst h3;simp at he
theorem Jj{e e':Aw}{z z' m m':Nat}{v v':Bd}{xs ac:List Bd}(h:w.ownsRow n0 e z v m xs)(h':w.ownsRow n0 e' z' v' m' ac)(he:BM e e'=false):v.ownBlock=none∨v.ownBlock≠v'.ownBlock:=by
 rcases h.2 with ⟨h1,_⟩|⟨g,af,ah,h1,h2,h3,_⟩;exact .inl (by rw [h1];rfl);refine .inr fun hk=>?_;rcases h'.2 with ⟨ab,_⟩|⟨g',ae,ad,ab,ag,aa,_⟩;rw [h1,ab] at hk;cases hk;rw [h1,ab] at hk;have:g=g':=by injection hk
 subst this;rw [h3] at aa;injection aa with aa;injection aa with _ aa;subst aa;simp at he
theorem Y5{M:Nat→Nat→Bool}{e:Aw}{z m:Nat}{v:Bd}{xs:List Bd}{row:Option Nat}(h:w.ownsRow n0 e z v m xs)(he:M e=fun _=>true)(hg:w.grownBy w' row)(hr:∀ k,row=some k→¬ LL M w k):w'.ownsRow n0 e z v m xs:=by
 have ht:=Qy h he;refine Df h hg ?_;rcases h.2 with ⟨h1,_⟩|⟨g,aa,ab,h1,_⟩;exact .inl (by rw [h1];rfl);refine .inr fun hk=>?_;have hv:v.ownBlock=some g:=by rw [h1];rfl
 exact hr g (hk.symm.trans hv) (ht g hv).2
theorem Sw(w:Ad)(row:Option Nat):w.grownBy w row:=⟨rfl,rfl,rfl,AN _,fun _ _ _=>rfl⟩
theorem FY.lt(h:FY F n0 b S fv sv sn w):n0≤b∧b<w.heap.size:=⟨h.hb,h.B.lt⟩
theorem FY.a(h:FY F n0 b S fv sv sn w)(g:G w w'):FY F n0 b S fv sv sn w':=⟨h.B.a g,h.hb,h.kF.a g,h.hF,D7 h.ov g,D7 h.on g⟩
theorem FY.ai{row:Option Nat}(h:FY F n0 b S fv sv sn w)(hg:w.grownBy w' row)(hr:∀ k,row=some k→n0≤k∧¬ LL DQ w k):FY F n0 b S fv sv sn w' :=
 ⟨h.B.A hg (fun e=>(hr b e.symm).2 (aF h.B rfl)),h.hb,h.kF.A hg fun k hk _ e=>by have:=(hr k e.symm).1;omega,h.hF,Y5 h.ov rfl hg fun k hk=>(hr k hk).2,Y5 h.on rfl hg fun k hk=>(hr k hk).2⟩
theorem Ue(v:DD):(JB v).length=6:=rfl
def YW:DD:=⟨[],AA,0,0,0⟩
def PQ(l:List DD):DD:=l.getLast?.getD YW
theorem SF{l:List DD}(h:w.ownsRow n0 83 6 sv l.length (l.flatMap JB)):∃ p c,sv = .slice p l.length c∧l.length≤c∧∀ i,(hi:i<l.length)→p=some ⟨E5 p,Gq p,none⟩∧Cv w (E5 p) (Gq p+i*6) (JB l[i]):=by
 obtain ⟨p,c,hv,hc⟩:=Im h;refine ⟨p,c,hv,hc,fun i hi=>?_⟩;obtain ⟨g,c',aa,_,hR,_⟩:=Ly h O;rw [hv] at aa;injection aa with e1 _ _;subst e1;exact ⟨rfl,Ow Ue hR hi⟩
theorem mO{l:List DD}{p:Option Addr}{c:Nat}(h:w.ownsRow n0 83 6 (.slice p l.length c) l.length (l.flatMap JB)):w.ownsRow n0 83 6 (.slice p l.dropLast.length c) l.dropLast.length (l.dropLast.flatMap JB):=by
 have hx:=Rn h (j:=l.dropLast.length) BI
 have e:(l.flatMap JB).take (l.dropLast.length*6)=l.dropLast.flatMap JB:=by
  rcases Gg l with e|⟨a,x,e⟩;subst e;rfl;subst e;rw [Gx,Ic,List.flatMap_append,← RX Ue a,List.take_left]
 rwa [e] at hx
theorem FY.ah(h:FY F n0 b S fv sv sn w):D4 F n0 b S w:=⟨_,_,_,h⟩
theorem D4.lt(h:D4 F n0 b S w):n0≤b∧b<w.heap.size:=by obtain ⟨_,_,_,h⟩:=h;exact h.lt
theorem D4.a(h:D4 F n0 b S w)(g:G w w'):D4 F n0 b S w':=by obtain ⟨_,_,_,h⟩:=h;exact (h.a g).ah
theorem FY.A{j:Nat}{e:Aw}{l:List Bd}(h:FY F n0 b S fv sv sn w)(hg:w.grownBy w' (some j))(hB:Av w j e l)(he:DQ e=fun _=>false)(hj:n0≤j):FY F n0 b S fv sv sn w' :=
 h.ai hg fun k hk=>by injection hk with hk;subst hk;exact ⟨hj,Ru hB he⟩
theorem D4.A{j:Nat}{e:Aw}{l:List Bd}(h:D4 F n0 b S w)(hg:w.grownBy w' (some j))(hB:Av w j e l)(he:DQ e=fun _=>false)(hj:n0≤j):D4 F n0 b S w':=by obtain ⟨_,_,_,h⟩:=h;exact (h.A hg hB he hj).ah
theorem FY.aa{X:List Nat}{lo:Nat}{ks:List Nd}{s:Bd}(h:FY F n0 b S fv sv sn w)(hg:w.grownBy w' s.ownBlock)(hO:Dl X lo w ks s)(hj:n0≤lo):FY F n0 b S fv sv sn w' :=
 h.ai hg fun k hk=>⟨Dg hj (hO.ge k hk),(hO.nd k hk).av rfl⟩
theorem D4.aa{X:List Nat}{lo:Nat}{ks:List Nd}{s:Bd}(h:D4 F n0 b S w)(hg:w.grownBy w' s.ownBlock)(hO:Dl X lo w ks s)(hj:n0≤lo):D4 F n0 b S w':=by obtain ⟨_,_,_,h⟩:=h;exact (h.aa hg hO hj).ah
theorem FY.set(h:FY F n0 b S fv sv sn w)(hg:w.grownBy w' (some b))(hB:Av w' b 46 (PN F fv sv sn S'))(hv:S'.q=S.q)(hn:S'.next=S.next):FY F n0 b S' fv sv sn w' :=
 ⟨hB,h.hb,h.kF.A hg fun k hk _ e=>by injection e with e;have:=h.hb;omega,h.hF,by rw [hv];exact Df h.ov hg (.inr (DR h.ov h.B rfl)),by rw [hn];exact Df h.on hg (.inr (DR h.on h.B rfl))⟩
theorem FY.bc(h:FY F n0 b S fv sv sn w)(hg:w.grownBy w1 sv.ownBlock):Av w1 b 46 (PN F fv sv sn S)∧Bo w1 (fun k=>k<n0) F.b fv∧w1.ownsRow n0 3 1 sn S.next.length (S.next.map fun (k:Nat)=>Value.int .i64 (k:Int)) :=
 ⟨h.B.A hg (fun e=>DR h.ov h.B rfl e.symm),h.kF.A hg fun k hk _ e=>by have:=(Qy (M:=DQ) h.ov rfl k e.symm).1;omega,Df h.on hg (Jj h.on h.ov rfl)⟩
theorem FY.a3(h:FY F n0 b S fv sv sn w)(hg:w.grownBy w1 sn.ownBlock):Av w1 b 46 (PN F fv sv sn S)∧Bo w1 (fun k=>k<n0) F.b fv∧w1.ownsRow n0 83 6 sv S.q.length (S.q.flatMap JB) :=
 ⟨h.B.A hg (fun e=>DR h.on h.B rfl e.symm),h.kF.A hg fun k hk _ e=>by have:=(Qy (M:=DQ) h.on rfl k e.symm).1;omega,Df h.ov hg (Jj h.ov h.on rfl)⟩
theorem FY.bf(h:FY F n0 b S fv sv sn w)(hg:w.grownBy w1 sv.ownBlock)(hO:w1.ownsRow n0 83 6 sv' S'.q.length (S'.q.flatMap JB))(aa:w1.grownBy w2 (some b))(hB:Av w2 b 46 (PN F fv sv' sn S'))(hn:S'.next=S.next):FY F n0 b S' fv sv' sn w2:=by
 obtain ⟨q1,q2,q3⟩:=h.bc hg;exact ⟨hB,h.hb,q2.A aa fun k hk _ e=>by injection e with e;have:=h.hb;omega,h.hF,Df hO aa (.inr (DR hO q1 rfl)),by rw [hn];exact Df q3 aa (.inr (DR q3 q1 rfl))⟩
theorem FY.bm(h:FY F n0 b S fv sv sn w)(hg:w.grownBy w1 sn.ownBlock)(hO:w1.ownsRow n0 3 1 sn' S'.next.length (S'.next.map fun (k:Nat)=>Value.int .i64 (k:Int)))(aa:w1.grownBy w2 (some b))(hB:Av w2 b 46 (PN F fv sv sn' S'))(hv:S'.q=S.q):FY F n0 b S' fv sv sn' w2:=by
 obtain ⟨q1,q2,q3⟩:=h.a3 hg;exact ⟨hB,h.hb,q2.A aa fun k hk _ e=>by injection e with e;have:=h.hb;omega,h.hF,by rw [hv];exact Df q3 aa (.inr (DR q3 q1 rfl)),Df hO aa (.inr (DR hO q1 rfl))⟩
theorem FY.cb(h:FY F n0 b S fv sv sn w)(hg:w.grownBy w1 sn.ownBlock)(hO:w1.ownsRow n0 3 1 sn S'.next.length (S'.next.map fun (k:Nat)=>Value.int .i64 (k:Int)))(hS:S' = { S with next:=S'.next }):FY F n0 b S' fv sv sn w1:=by
 obtain ⟨q1,q2,q3⟩:=h.a3 hg;rw [hS];exact ⟨q1,h.hb,q2,h.hF,q3,hO⟩
end
theorem xB(t:Nd)(w:Ad)(h0:t.b=[]):Bx Aj 24 #[BV t (.slice none 0 0)] w fun r w'=>r=BV (Et t) (.slice none 0 0)∧G w w':=by
 obtain ⟨k,x,n,a,ks,y,r,u⟩:=t;obtain rfl:ks=[]:=h0;obtain ⟨t,ht⟩:∃ t,t=Nd.mk k x n a [] y r u:=⟨_,rfl⟩;have h0:(0:Nat)=t.b.length:=by rw [ht];rfl
 rw [← ht];have g:=G.refl w;refine Cj 34 [0] Tryz.func24 ?_;refine Ao (Ay (CN fun b1 _ _ _ g E=>?_));refine A1 fun b2 _ _ _ g E=>?_;refine Al (kq (Ao (Ay (AF FK U (AL Cd U (E.Q.j U) (AF E6 U (AL DU U (E.Q.j U) (Gi Ck Js (A5 U (A5 U Cz)) U U (A1 fun b3 _ _ _ g E=>?_)))))))));refine AS fun _ _ _ g E=>?_;refine R ?_;refine DA ((by have:=gE t none 0;rw [← h0] at this;exact this _)) (Do fun ad g11 g E=>?_);refine Az (fun h1=>?_) fun h1=>?_
 ·have h1:Mr t=true:=h1
  refine AS fun ae _ _ g E=>?_;refine R ?_
  have B3:Av ae b3 26 (Cs (Et t) (.slice none 0 0)):=by
   have h:=E.E;rw [RO,HG,h1];exact h
  replace E:=E.r0 B3;refine R ?_;have aa:=E.1;refine GG (fun (i:Nat) u1=>(i=0∧Av u1 b3 26 (Cs (Et t) (.slice none 0 0)))∧G w u1) _ [(1,True,_),(2,True,_),(3,True,_)] (fun (i:Nat)=>[(4,True,.int .i64 i)]) (fun (i:Nat)=>0) (0) ⟨⟨rfl,E.E⟩,g⟩ (A4 (A6 E.g2) (A4 (A6 E.Q) (Di _))) (K rfl (K rfl (K rfl (K rfl (Bm _))))) ?_;clear E;rintro i u1 ⟨ab,ac⟩ ⟨B1,B2,_⟩;replace B1:Av _ _ _ _:=B1;replace B2:Av _ _ _ _:=B2;have g:=ac;obtain ⟨hi,B3⟩:=ab;subst hi;have E:=GP (L:=[(b3,_,_),(b2,_,_),(b1,_,_)]) aa ⟨B3,B2,B1,BN⟩ rfl;refine Az (fun h2=>?_) fun h2=>?_
  ·exfalso;simp only [BQ] at h2;omega
   done
  refine AS fun _ _ _ g E=>?_;refine AC ?_;exact ⟨rfl,g⟩
 have h1:Mr t=false:=h1;refine R ?_
 have B3:Av ad b3 26 (Cs (Et t) (.slice none 0 0)):=by
  have h:=E.E;rw [RO,HG,h1];exact h
 replace E:=E.r0 B3;refine R ?_;have aa:=E.1;refine GG (fun (i:Nat) u1=>(i=0∧Av u1 b3 26 (Cs (Et t) (.slice none 0 0)))∧G w u1) _ [(1,True,_),(2,True,_),(3,True,_)] (fun (i:Nat)=>[(4,True,.int .i64 i)]) (fun (i:Nat)=>0) (0) ⟨⟨rfl,E.E⟩,g⟩ (A4 (A6 E.g2) (A4 (A6 E.Q) (Di _))) (K rfl (K rfl (K rfl (K rfl (Bm _))))) ?_;clear E;rintro i u1 ⟨ab,ac⟩ ⟨B1,B2,_⟩;replace B1:Av _ _ _ _:=B1;replace B2:Av _ _ _ _:=B2;have g:=ac;obtain ⟨hi,B3⟩:=ab;subst hi;have E:=GP (L:=[(b3,_,_),(b2,_,_),(b1,_,_)]) aa ⟨B3,B2,B1,BN⟩ rfl;refine Az (fun h2=>?_) fun h2=>?_
 ·exfalso;simp only [BQ] at h2;omega
  done
 refine AS fun _ _ _ g E=>?_;refine AC ?_;exact ⟨rfl,g⟩
theorem kJ{t:Nd}(h:((Ae (t.c=9)&&Ae (t.i=[]))&&Kd t)=true):BF t=(AA,true):=by
 simp only [Ap] at h;unfold BF;rw [h.2,h.1.1,h.1.2];rfl
theorem tA{t:Nd}(h:((Ae (t.c=9)&&Ae (t.i=[]))&&Kd t)=false)(h2:G8 t=false):BF t=(AA,false):=by
 unfold BF;unfold G8 at h2;cases h3:Kd t;rfl;rw [h3,Gz] at h;simp only [Eb,A0];cases h4:Ae (t.c=9);simp only [A0];cases h5:Ae (t.c=8);simp only [A0];cases h6:Ae (t.c=7);rfl;rw [h5,h6,h3] at h2;simp only [A8,A0,Gz] at h2;rw [h2];rfl;rw [h5,h3,Gz] at h2;simp only [A8] at h2;rw [h2];rfl;rw [h4,Bool.true_and] at h;rw [h];rfl
theorem Aan{t:Nd}(h2:G8 t=true)(h3:Ae (t.c=8)=true):BF t=(⟨4,t.i⟩,true):=by
 unfold G8 at h2;rw [h3,A8,Ap] at h2;have hk:=AV h3;unfold BF;rw [h2.2,h3,h2.1,Aq (by omega:¬ t.c=9)];rfl
theorem MO{t:Nd}(h2:G8 t=true)(h3:Ae (t.c=8)=false):BF t=(⟨Mk t.i,[]⟩,true)∧Is t.i=true:=by
 unfold G8 at h2;rw [h3,A0] at h2;cases h4:Ae (t.c=7);rw [h4] at h2;cases h2;rw [h4,A8,Ap] at h2;have hk:=AV h4;unfold BF;rw [h2.2,h3,h4,h2.1,Aq (by omega:¬ t.c=9)];exact ⟨rfl,rfl⟩
theorem M4(t:Nd)(p:Option Addr)(c:Nat)(w:Ad):Bx Aj 41 #[BV t (.slice p t.b.length c)] w fun v w'=>v = .tuple #[D3 (BF t).1,.bool (BF t).2]∧G w w':=by
  have g:=G.refl w
  refine Cj 59 [0] Tryz.func41 ?_
  refine CN fun _ _ _ _ g E=>?_
  refine A1 fun _ _ _ _ g E=>?_
  refine Az (fun h1=>?_) fun h1=>?_
  · have h1:((Ae (t.c=9)&&Ae (t.i=[]))&&Kd t)=true:=h1
    refine AS fun _ _ _ g E=>?_
    refine AC ?_
    rw [kJ h1];exact ⟨rfl,g⟩
  have h1:((Ae (t.c=9)&&Ae (t.i=[]))&&Kd t)=false:=h1
  refine R ?_
  refine DA (Tv _ _ _ _) (Do fun af ae g E=>?_)
  refine Az (fun h2=>?_) fun h2=>?_
  · (try simp only [BJ] at h2)
    refine AS fun _ _ _ g E=>?_
    refine AC ?_
    rw [tA h1 (by simpa using h2)];exact ⟨rfl,g⟩
  have ad:G8 t=true:=by simpa using h2
  refine CU (kq (Ao (Ao (Ay (AF FK U (AL Cd U (E.Q.j U) (FM U U (Al (kq (CB U (fun h3=>?_) (fun h3=>?_)))))))))))
  · (try simp only [BJ] at h3)
    refine Ao (Ay (AF E6 U (AL DU U (E.Q.j U) (Gi Fw HW (A5 U (A5 U Cz)) U U (AS fun _ _ _ g E=>?_)))))
    refine AC ?_
    rw [Aan ad h3];exact ⟨rfl,g⟩
  refine Az (fun h4=>?_) fun h4=>?_
  · (try simp only [BJ] at h4)
    refine AS fun _ _ _ g E=>?_
    refine AC ?_
    obtain ⟨e,hn⟩:=MO ad h3
    rw [e]
    have hx:=h4
    refine ⟨?_,g⟩
    first
    | (have e2:=AV hx;rw [e2];rfl)
    | (have hm:=(KX _ _).1 hn
       simp only [Ig,Cl,CQ,or_false] at hm
       simp only [CK] at h4 h5 h6 h7 h8 h9 ab ac aa
       have e2:t.i=[97,116,111,109,105,99]:=by simpa only [h4,h5,h6,h7,h8,h9,ab,ac,aa,false_or] using hm
       rw [e2]; rfl)
  refine Az (fun h5=>?_) fun h5=>?_
  · (try simp only [BJ] at h5)
    refine AS fun _ _ _ g E=>?_
    refine AC ?_
    obtain ⟨e,hn⟩:=MO ad h3
    rw [e]
    have hx:=h5
    refine ⟨?_,g⟩
    first
    | (have e2:=AV hx;rw [e2];rfl)
    | (have hm:=(KX _ _).1 hn
       simp only [Ig,Cl,CQ,or_false] at hm
       simp only [CK] at h4 h5 h6 h7 h8 h9 ab ac aa
       have e2:t.i=[97,116,111,109,105,99]:=by simpa only [h4,h5,h6,h7,h8,h9,ab,ac,aa,false_or] using hm
       rw [e2]; rfl)
  refine Az (fun h6=>?_) fun h6=>?_
  · (try simp only [BJ] at h6)
    refine AS fun _ _ _ g E=>?_
    refine AC ?_
    obtain ⟨e,hn⟩:=MO ad h3
    rw [e]
    have hx:=h6
    refine ⟨?_,g⟩
    first
    | (have e2:=AV hx;rw [e2];rfl)
    | (have hm:=(KX _ _).1 hn
       simp only [Ig,Cl,CQ,or_false] at hm
       simp only [CK] at h4 h5 h6 h7 h8 h9 ab ac aa
       have e2:t.i=[97,116,111,109,105,99]:=by simpa only [h4,h5,h6,h7,h8,h9,ab,ac,aa,false_or] using hm
       rw [e2]; rfl)
  refine Az (fun h7=>?_) fun h7=>?_
  · (try simp only [BJ] at h7)
    refine AS fun _ _ _ g E=>?_
    refine AC ?_
    obtain ⟨e,hn⟩:=MO ad h3
    rw [e]
    have hx:=h7
    refine ⟨?_,g⟩
    first
    | (have e2:=AV hx;rw [e2];rfl)
    | (have hm:=(KX _ _).1 hn
       simp only [Ig,Cl,CQ,or_false] at hm
       simp only [CK] at h4 h5 h6 h7 h8 h9 ab ac aa
       have e2:t.i=[97,116,111,109,105,99]:=by simpa only [h4,h5,h6,h7,h8,h9,ab,ac,aa,false_or] using hm
       rw [e2]; rfl)
  refine Az (fun h8=>?_) fun h8=>?_
  · (try simp only [BJ] at h8)
    refine AS fun _ _ _ g E=>?_
    refine AC ?_
    obtain ⟨e,hn⟩:=MO ad h3
    rw [e]
    have hx:=h8
    refine ⟨?_,g⟩
    first
    | (have e2:=AV hx;rw [e2];rfl)
    | (have hm:=(KX _ _).1 hn
       simp only [Ig,Cl,CQ,or_false] at hm
       simp only [CK] at h4 h5 h6 h7 h8 h9 ab ac aa
       have e2:t.i=[97,116,111,109,105,99]:=by simpa only [h4,h5,h6,h7,h8,h9,ab,ac,aa,false_or] using hm
       rw [e2]; rfl)
  refine Az (fun h9=>?_) fun h9=>?_
  · (try simp only [BJ] at h9)
    refine AS fun _ _ _ g E=>?_
    refine AC ?_
    obtain ⟨e,hn⟩:=MO ad h3
    rw [e]
    have hx:=h9
    refine ⟨?_,g⟩
    first
    | (have e2:=AV hx;rw [e2];rfl)
    | (have hm:=(KX _ _).1 hn
       simp only [Ig,Cl,CQ,or_false] at hm
       simp only [CK] at h4 h5 h6 h7 h8 h9 ab ac aa
       have e2:t.i=[97,116,111,109,105,99]:=by simpa only [h4,h5,h6,h7,h8,h9,ab,ac,aa,false_or] using hm
       rw [e2]; rfl)
  refine Az (fun ab=>?_) fun ab=>?_
  · (try simp only [BJ] at ab)
    refine AS fun _ _ _ g E=>?_
    refine AC ?_
    obtain ⟨e,hn⟩:=MO ad h3
    rw [e]
    have hx:=ab
    refine ⟨?_,g⟩
    first
    | (have e2:=AV hx;rw [e2];rfl)
    | (have hm:=(KX _ _).1 hn
       simp only [Ig,Cl,CQ,or_false] at hm
       simp only [CK] at h4 h5 h6 h7 h8 h9 ab ac aa
       have e2:t.i=[97,116,111,109,105,99]:=by simpa only [h4,h5,h6,h7,h8,h9,ab,ac,aa,false_or] using hm
       rw [e2]; rfl)
  refine Az (fun ac=>?_) fun ac=>?_
  · (try simp only [BJ] at ac)
    refine AS fun _ _ _ g E=>?_
    refine AC ?_
    obtain ⟨e,hn⟩:=MO ad h3
    rw [e]
    have hx:=ac
    refine ⟨?_,g⟩
    first
    | (have e2:=AV hx;rw [e2];rfl)
    | (have hm:=(KX _ _).1 hn
       simp only [Ig,Cl,CQ,or_false] at hm
       simp only [CK] at h4 h5 h6 h7 h8 h9 ab ac aa
       have e2:t.i=[97,116,111,109,105,99]:=by simpa only [h4,h5,h6,h7,h8,h9,ab,ac,aa,false_or] using hm
       rw [e2]; rfl)
  refine Az (fun aa=>?_) fun aa=>?_
  · (try simp only [BJ] at aa)
    refine AS fun _ _ _ g E=>?_
    refine AC ?_
    obtain ⟨e,hn⟩:=MO ad h3
    rw [e]
    have hx:=aa
    refine ⟨?_,g⟩
    first
    | (have e2:=AV hx;rw [e2];rfl)
    | (have hm:=(KX _ _).1 hn
       simp only [Ig,Cl,CQ,or_false] at hm
       simp only [CK] at h4 h5 h6 h7 h8 h9 ab ac aa
       have e2:t.i=[97,116,111,109,105,99]:=by simpa only [h4,h5,h6,h7,h8,h9,ab,ac,aa,false_or] using hm
       rw [e2]; rfl)
  refine AS fun _ _ _ g E=>?_
  refine AC ?_
  obtain ⟨e,hn⟩:=MO ad h3
  rw [e]
  have hx:=aa
  refine ⟨?_,g⟩
  first
  | (have e2:=AV hx;rw [e2];rfl)
  | (have hm:=(KX _ _).1 hn
     simp only [Ig,Cl,CQ,or_false] at hm
     simp only [CK] at h4 h5 h6 h7 h8 h9 ab ac aa
     have e2:t.i=[97,116,111,109,105,99]:=by simpa only [h4,h5,h6,h7,h8,h9,ab,ac,aa,false_or] using hm
     rw [e2]; rfl)
theorem rW(t:Nd)(name:List UInt8)(v:Bd)(D:Nat→Prop)(w:Ad)(hk:Bo w D t.b v)(hc:count t≤1000000):Bx Aj 127 #[BV t v,Co name] w fun r w'=>WS (Gf t name) r w'∧G w w':=by
 obtain ⟨p,c,rfl,bq,a9⟩:=hk;have g:=G.refl w;have bp:=Ej t;refine Cj 73 [0,1] Tryz.func127 ?_;refine CN fun _ w2 _ _ g E=>?_;refine R ?_;refine GZ (fun (i:Nat) u1=>(i≤t.b.length∧∀ j,(hj:j<t.b.length)→j<i→J3 name t.b[j]=false)∧G w2 u1) [(1,True,_),(2,True,_)] (fun (i:Nat)=>[(6,True,.int .i64 i)]) (fun (i:Nat)=>t.b.length-i) (0) ⟨⟨Cr _,fun j _ hj=>absurd hj (Nat.not_lt_zero j)⟩,G.refl _⟩ (K U (K U (K U (Bm _)))) ?_;rintro i u1 ⟨an,aa⟩;have g:=g.trans aa;replace E:=E.a aa;refine Ao (Ao (Ay (As U (AF AW U (AL Bj U (E.E.j U) (ED AB U (G2 U U (Al (kq (CB U (fun h1=>?_) (fun h1=>?_)))))))))));have h1:i<t.b.length:=by simp only [BQ] at h1;omega
 obtain ⟨b,o,rfl,hD,xs,hR,hX⟩:=a9 O;obtain ⟨p',c',hcell,aq⟩:=I9 hR hX h1;have b0:=J5 h1;have b6:=Ej t.b[i];refine CU (kq (Ao (DY (Ao (Ay (AF AW U (AL Bj U (E.E.j U) (As U (Hh AB U U O (CH A3 U U (hcell.a g) (A1 fun _ _ ga _ g E=>?_)))))))))));have a5:=ga.ge aa;have aa:=aa.trans (ga.g);refine AS fun a4 ga _ g E=>?_;replace aa:=CO aa ga O;refine Az (fun h2=>?_) fun h2=>?_;have h2:(!Ae (t.b[i].c=2) || !Ae (t.b[i].i=name))=true:=h2;refine R ?_;refine BL [6,1,2] ?_;refine Al (fun a ha=>?_)
 exact ⟨i+1,ha,⟨⟨h1,fun j a8 hj=>by
  by_cases e:j=i;subst e;unfold J3;rw [h2];rfl;exact an.2 j a8 O⟩,aa⟩,O⟩
 have h2:(!Ae (t.b[i].c=2) || !Ae (t.b[i].i=name))=false:=h2;have hf:=aI h1 an.2 (by unfold J3;rw [h2];rfl)
 have hN:Gf t name=match Hv GY t.b[i].b with
  | none=>([],false)
  | some l=>(l,true):=by unfold Gf;rw [hf];try rfl
 obtain ⟨p2,c2,hpe,a6,a3⟩:=aq;injection hpe with hpe _ be;subst hpe be;have b1:=E.Q.lt;have bz:=E.E.lt;refine R ?_;refine GZ (fun (x:Nat×Option Addr×Nat×List JA) u2=>match x with|⟨k,a,ca,l⟩=>(k≤t.b[i].b.length∧Hv GY (t.b[i].b.take k)=some l∧u2.ownsRow a4.heap.size 109 3 (.slice a l.length ca) l.length (l.flatMap KA))∧G a4 u2) [(1,True,_),(2,True,_),(6,True,_),(7,True,_)] (fun (x:Nat×Option Addr×Nat×List JA)=>match x with|⟨k,a,ca,l⟩=>[(8,True,.slice a l.length ca),(9,True,.int .i64 k)]) (fun (x:Nat×Option Addr×Nat×List JA)=>match x with|⟨k,a,ca,l⟩=>t.b[i].b.length-k) ((0,none,0,[])) ⟨⟨Cr _,rfl,JX _ _ _ _⟩,G.refl _⟩ (K U (K U (K U (K U (K U (K U (Bm _))))))) ?_;rintro ⟨k,a,ca,l⟩ u2 ⟨bn,ab⟩;have g:=g.trans ab;have aa:=aa.trans ab;replace E:=E.a ab;obtain ⟨hk,hm,hO⟩:=bn;have bj:=RM GY _ _ hm;rw [DV] at bj;refine Ao (Ao (Ay (As U (AF AW U (AL Bj U (E.E.j U) (ED AB U (G2 U U (Al (kq (CB U (fun h3=>?_) (fun h3=>?_)))))))))));have h3:k<t.b[i].b.length:=by simp only [BQ] at h3;omega
 obtain ⟨b2,o2,rfl,b5,bs,a7,bf⟩:=a3 O;obtain ⟨p3,c3,aj,al⟩:=I9 a7 bf h3;have br:=J5 h3;refine CU (kq (Ao (DY (Ao (Ay (AF AW U (AL Bj U (E.E.j U) (As U (Hh AB U U O (CH A3 U U (aj.a g) (?_)))))))))));have ao:=fun k hk=>(hO.lt k hk).2;refine A1 fun bo _ ad _ g E=>?_;have ay:=ad.ge aa;have a0:=ad.ge ab;have aa:=aa.trans (ad.g);have ab:=ab.trans (ad.g);have hO:=D7 hO (ad.g);have ar:(BH a l.length ca).ownBlock≠some bo:=fun h=>by have:=ao _ h;have:=ad.j;omega
 refine AS fun _ ga _ g E=>?_;replace aa:=CO aa ga O;replace ab:=CO ab ga O;have hO:=Df hO ga (.inr ar);refine Az (fun h4=>?_) fun h4=>?_;have h4:(!Ae (t.b[i].b[k].c=3) || !Ae ((t.b[i].b[k].b.length:Int)=1))=true:=h4;have ae:=RV GY _ _ (Ei h3) (by unfold GY;rw [h4];rfl);refine Ao (Ay (BO U (BO U (Al (kq (DZ (PU (ts:=[4,5]) (vs:=[_,_]) U U U ?_)))))));rw [hN,ae];exact ⟨⟨_,rfl,PC _⟩,g⟩;have h4:(!Ae (t.b[i].b[k].c=3) || !Ae ((t.b[i].b[k].b.length:Int)=1))=false:=h4
 have bk:t.b[i].b[k].b.length=1:=by
  simp only [Ik,Bool.not_eq_false',BQ] at h4;omega
 obtain ⟨bc,ek⟩:=YM bk;obtain ⟨p4,c4,ag,_,aw⟩:=al;injection ag with ag _ az;subst ag az;obtain ⟨b4,o4,rfl,bw,bt,bg,bh⟩:=aw O;obtain ⟨p5,c5,ai,_⟩:=I9 bg bh bc;refine CU (kq (Ao (Ay (AF AW U (AL Bj U (E.E.j U) (AG U (fun _=>JH AB (H U) Bl (fun _=>by show (0:Int)≤0∧(0:Int)<((t.b[i].b[k].b.length:Nat):Int);omega)) (CH A3 U U (ai.a g) (F1 U (BK V4 Cf (CF U CT) U) (M4 _ _ _ _) (fun bv af=>?_)))))))));have g:=g.trans af;have aa:=aa.trans (af);have ab:=ab.trans (af);replace E:=E.a af;have hO:=D7 hO (af);refine R ?_;have ap:=fun k hk=>(hO.lt k hk).2;refine A1 fun bm _ ac _ g E=>?_;have au:=ac.ge aa;have ax:=ac.ge ab;have aa:=aa.trans (ac.g);have ab:=ab.trans (ac.g);have hO:=D7 hO (ac.g);have a1:(BH a l.length ca).ownBlock≠some bm:=fun h=>by have:=ap _ h;have:=ac.j;omega
 refine AS fun _ ga _ g E=>?_;replace aa:=CO aa ga O;replace ab:=CO ab ga O;have hO:=Df hO ga (.inr a1);refine Az (fun h5=>?_) fun h5=>?_;have h5:(!(BF t.b[i].b[k].b[0]).2)=true:=h5;have ae:=RV GY _ _ (Ei h3) (by unfold GY;rw [h4,ek];simp only [Bool.not_eq_true'] at h5;rw [h5];rfl);refine Ao (Ay (BO U (BO U (Al (kq (DZ (PU (ts:=[4,5]) (vs:=[_,_]) U U U ?_)))))));rw [hN,ae];exact ⟨⟨_,rfl,PC _⟩,g⟩;have h5:(!(BF t.b[i].b[k].b[0]).2)=false:=h5;have am:GY t.b[i].b[k]=some ⟨t.b[i].b[k].i,(BF t.b[i].b[k].b[0]).1⟩:=by unfold GY;rw [h4,ek];simp only [Bool.not_eq_false'] at h5;rw [h5];rfl
 refine CU (kq (Ay (As U (AF E6 U (AL DU U (E.Q.j U) (CH Ci U U E.E.row (Gi Py VY (A5 U (A5 U Cz)) U U (Ch fun _ _ ga _ g E=>?_))))))));have av:=ga.ge aa;have a2:=ga.ge ab;have ab:=ab.trans (ga.g);have hO:=D7 hO (ga.g);refine ID U Ps Py U Cb (H U) hO (H U) U E.E.row U (by simp only [maxLen];omega) O (by have:=ab.size;omega) ?_;intro a' c' b3 bi ah bu;have ak:=fun k hk=>(hO.lt k hk).1;have g:=L7 g ah (fun k hk=>by have:=ak k hk;omega);replace ab:=L7 ab ah ak;replace E:=E.sel [false,false,false,true,true];replace E:=E.A ah (Fe.2 ⟨((fun he=>by have:=ak _ he.symm;omega)),Fe.2 ⟨((fun he=>by have:=ak _ he.symm;omega)),It _⟩⟩);have ba:=fQ ⟨t.b[i].b[k].i,(BF t.b[i].b[k].b[0]).1⟩ bi;refine R ?_;refine BL [8,9,1,2,6,7] ?_;refine Al (fun a ha=>?_);refine ⟨(k+1,a',c',l++[⟨t.b[i].b[k].i,(BF t.b[i].b[k].b[0]).1⟩]),?_,⟨⟨h3,XH h3 hm am,ba⟩,ab⟩,by show t.b[i].b.length-(k+1)<t.b[i].b.length-k;omega⟩;simpa using ha;have h3:k=t.b[i].b.length:=by simp only [CK] at h3;omega
 subst h3;rw [FB] at hm;refine AC ?_;rw [hN,hm];exact ⟨⟨_,rfl,W7 hO⟩,g⟩;have h1:i=t.b.length:=by simp only [CK] at h1;omega
 subst h1;refine AC ?_;have hN:Gf t name=([],false):=by unfold Gf;rw [ZF fun j hj=>an.2 j hj O]
 rw [hN];exact ⟨⟨_,rfl,PC _⟩,g⟩
theorem rF(t:Nd)(name:List UInt8)(hc:count t≤1000000):(Gf t name).1.length≤1000000:=by
 unfold Gf
 cases hf:t.b.find? (J3 name) with
 | none=>exact Cr _
 | some d =>
  cases hm:Hv GY d.b with
  | none=>simp only [hm];exact Cr _
  | some l =>
   simp only [hm];have:=RM GY _ _ hm;have:=Mt (IG hf);have:=Ej d;omega
theorem F5{F:Nd}{n0 b:Nat}{S:An}{w:Ad}(a e:Int)(h:D4 F n0 b S w):Bx Aj 26 #[.pointer (some ⟨b,0,none⟩),.int .i64 a,.int .i64 e] w fun r w'=>r = .tuple #[]∧D4 F n0 b (DI a e S) w'∧AP DQ n0 w w':=by
 obtain ⟨fv,sv,sn,h⟩:=h;have g:=AP.refl DQ n0 w;refine Cj 19 [0,1,2] Tryz.func26 ?_;refine Az (fun h1=>?_) fun h1=>?_;(try simp only [BJ] at h1);refine R ?_;refine CZ U IU (H U) (H U) U U h.B U U ?_;intro wA aa ad BA;have g:=Jl g aa h.B rfl h.hb;have h:=h.set (S':={ S with ea:=a }) aa BA rfl rfl;refine R ?_;refine CZ U Ro (H U) (H U) U U h.B U U ?_;intro wC ab ac BC;have g:=Jl g ab h.B rfl h.hb;have h:=h.set (S':={ S with ea:=a,ee:=e }) ab BC rfl rfl;refine Al (Hl U ?_);refine ⟨rfl,?_,g⟩;unfold DI;rw [h1];exact h.ah;refine CU (Hl U ?_);refine ⟨rfl,?_,g⟩;unfold DI;rw [h1];exact h.ah
theorem H9(t:Nd)(p:Option Addr)(c:Nat)(w:Ad):Bx Aj 27 #[BV t (.slice p t.b.length c)] w fun r w'=>r=BV (DN t) (.slice none 0 0)∧G w w':=by
 have g:=G.refl w;refine Cj 16 [0] Tryz.func27 ?_;refine Ao (Ay (CN fun _ _ _ _ g E=>?_));refine A1 fun _ _ _ _ g E=>?_;refine Al (kq (Ao (Ay (AF FK U (AL Cd U (E.Q.j U) (AF E6 U (AL DU U (E.Q.j U) (AF Lf U (AL Cd U (E.Q.j U) (Gi Ck Js (A5 U (A5 U (A5 U Cz))) U U (AK (xB (.mk t.c t.i t.num 0 [] AA 0 0) _ U) ?_)))))))))));rintro _ _ ⟨rfl,ga⟩;refine AY fun g E=>?_;refine A1 fun b3 _ _ _ g E=>?_;refine AS fun _ _ _ g E=>?_;refine AS fun aa _ _ g E=>?_;refine R ?_
 have B3:Av aa b3 26 (Cs (DN t) (.slice none 0 0)):=by
  have h:=E.E;rw [RO] at h;exact h
 replace E:=E.r0 B3;refine AS fun _ _ _ g E=>?_;refine AC ?_;exact ⟨rfl,g⟩
theorem xC:∀ (t:Nd) (v:Bd) (D:Nat→Prop) (w:Ad),Bo w D t.b v→count t≤1000000→Bx Aj 28 #[BV t v] w fun r w'=>IM (Dx t) w.heap.size r w'∧G w w':=by
 refine Nd.ao fun t ih v D w hk hc=>?_;have an:=Ej t;obtain ⟨p,c,rfl,ao,aj⟩:=hk;have g:=G.refl w;refine Cj 26 [0] Tryz.func28 ?_;refine CN fun b1 _ _ _ g E=>?_;refine A1 fun b2 _ _ _ g E=>?_;refine R ?_;refine AK (H9 t _ _ _) ?_;rintro _ _ ⟨rfl,ga⟩;refine AY fun g E=>?_;refine A1 fun b3 _ _ _ g E=>?_;refine AS fun am _ _ g E=>?_;refine R ?_
 have B3:Av am b3 26 (Cs (Dx t) (.slice none 0 0)):=by
  have h:=E.E;rw [VX];exact h
 replace E:=E.r0 B3;refine R ?_;have ah:=E.1;refine GG (fun (i:Nat) u1=>(i≤t.b.length∧∃ s,Av u1 b3 26 (Cs (Dx t) s)∧Dl [b1,b2,b3] w.heap.size u1 ((t.b.take i).map Dx) s)∧G w u1) _ [(1,True,_),(2,True,_),(3,True,_)] (fun (i:Nat)=>[(4,True,.int .i64 i)]) (fun (i:Nat)=>t.b.length-i) (0) ⟨⟨Cr _,_,E.E,Kq _ _ _⟩,g⟩ (A4 (A6 E.g2) (A4 (A6 E.Q) (Di _))) (K U (K U (K U (K U (Bm _))))) ?_;clear E;rintro i u1 ⟨al,ak⟩ ⟨B1,B2,_⟩;replace B1:Av _ _ _ _:=B1;replace B2:Av _ _ _ _:=B2;have g:=ak;obtain ⟨hi,s,B3,hO⟩:=al;obtain ⟨sa,sc,rfl⟩:=hO.slice;have E:=GP (L:=[(b3,_,_),(b2,_,_),(b1,_,_)]) ah ⟨B3,B2,B1,BN⟩ rfl;refine Az (fun h1=>?_) fun h1=>?_;have h2:i<t.b.length:=by simp only [BQ] at h1;omega
 obtain ⟨b,o,rfl,hD,xs,hR,hX⟩:=aj O;obtain ⟨p',c',hcell,af⟩:=I9 hR hX h2;have aq:=J5 h2;have av:=Ej t.b[i];have hu:=g.size;refine CU (kq (Ao (DY (C9 [3,0,3,0,3,3,0,1,1,2,3,2] ?_))));refine Ft fun g E=>?_;have hO:=hO.a (G.drew _);have ab:=E.g2.lt;have ad:=E.Q.lt;have ae:=E.E.lt;have ai:=hO.lt;refine AF AW U (AL Bj U (E.E.j U) (AF AW U (AL Bj U (E.g2.j U) (As U (Hh AB U U O (CH A3 U U (hcell.a g) (AK (ih _ (Ei h2) _ _ _ (af.a g) O) ?_)))))));rintro _ _ ⟨⟨p2,c2,rfl,ac⟩,ga⟩;refine AY fun g E=>?_;have hO:=AO hO;refine Ch fun _ _ ag _ g E=>?_;have hO:=hO.a (ag.g);have ac:=ac.a ag.g;have hOo:=hO;refine Hq U AB Ck U (H U) hO (H U) U E.E.row (Dh (ac.mono fun k hk _=>⟨⟨⟨by have:u1.heap.size≤k:=hk.1;omega,by have:u1.heap.size≤k:=hk.1;have:=ab;have:=ad;have:=ae;simp;omega⟩,hk.2⟩,fun he=>by have:=ai k he.symm;have:u1.heap.size≤k:=hk.1;omega⟩)) (by simp;omega) Dj ⟨by have:=g.size;omega,by have q1:=E.g3.lt;have q2:=E.g2.lt;have q3:=E.Q.lt;simp;omega⟩ ?_;intro ap ar au hO aa;replace E:=E.sel [false,true,true,true];replace E:=E.ab aa hOo.W Bq;have g:=L7 g aa Fm;refine AS fun _ ga _ g E=>?_;have hO:=AM hO;refine R ?_;refine BL [4,1,2,3] ?_;refine Al (fun a ha=>?_);exact ⟨i+1,ha,⟨⟨h2,_,E.E,by rw [Ri h2,List.map_append];exact hO⟩,g⟩,(A4 (A6 E.g2) (A4 (A6 E.Q) (Di _))),O⟩
 have h2:i=t.b.length:=by simp only [CK] at h1;omega
 subst h2;rw [FB] at hO E;refine AS fun _ ga _ g E=>?_;have hO:=AM hO;refine AC ?_;exact ⟨Wq (by rw [Tf];exact hO.kd),g⟩
theorem Lk(F:Nd)(v:Bd)(D:Nat→Prop)(w:Ad)(kd:Int)(s:List UInt8)(hk:Bo w D F.b v)(hc:count F≤1000000):Bx Aj 32 #[BV F v,.int .i64 kd,Co s] w fun r w'=>(∃ p c,r = .tuple #[BV (Bk F kd s).1 (.slice p (Bk F kd s).1.b.length c),.int .i64 (Bk F kd s).2]∧Bo w' D (Bk F kd s).1.b (.slice p (Bk F kd s).1.b.length c))∧G w w':=by
 obtain ⟨p,c,rfl,ae,ad⟩:=hk;have af:=Ej F;have g:=G.refl w;refine Cj 42 [0,1,2] Tryz.func32 ?_;refine CN fun _ _ _ _ g E=>?_;refine A1 fun _ w6 _ _ g E=>?_;refine BO rfl (Al (kq (Ao (Ay (BO rfl (Al (kq (Ao (Ao (Ay (BO rfl (Al (kq (DY (GZ (fun (x:Nat×Nat) u1=>match x with|⟨i,k⟩=>(i≤F.b.length∧k≤i∧Bk F kd s=GC kd s (F.b.drop i) k)∧G w6 u1) [(1,True,_),(2,True,_),(3,True,_),(6,True,_)] (fun (x:Nat×Nat)=>match x with|⟨i,k⟩=>[(8,True,.int .i64 k),(9,True,.int .i64 i)]) (fun (x:Nat×Nat)=>match x with|⟨i,k⟩=>F.b.length-i) (0,0) ⟨⟨Cr _,AN _,rfl⟩,G.refl _⟩ (K rfl (K rfl (K rfl (K rfl (K rfl (K rfl (Bm _))))))) ?_)))))))))))))));rintro ⟨i,k⟩ u1 ⟨ac,aa⟩;have g:=g.trans aa;replace E:=E.a aa;obtain ⟨hi,ag,hF⟩:=ac;refine Ao (Ao (Ay (As U (AF AW U (AL Bj U (E.Q.j U) (ED AB U (G2 U U (Al (kq (CB U (fun h1=>?_) (fun h1=>?_)))))))))));have h1:i<F.b.length:=by simp only [BQ] at h1;omega
 obtain ⟨b,o,rfl,hD,xs,hR,hX⟩:=ad O;obtain ⟨p',c',hcell,ab⟩:=I9 hR hX h1;rw [Jb h1,GC] at hF;refine CU (kq (Ao (DY (Ao (Ao (Ay (AF AW U (AL Bj U (E.Q.j U) (As U (Hh AB U U O (AF FK U (AL Cd U ((hcell.a g).one (i:=0) U) (As U (MU U U (Al (kq (CB U (fun h2=>?_) (fun h2=>?_))))))))))))))))));have hq:Ae (F.b[i].c=kd)=false:=by simpa using h2
 rw [hq,A0] at hF;refine OD U (kq (Ay (As U (IB U U O (BO U (FD [(8,_,_),(9,_,_),(1,_,_),(2,_,_),(3,_,_),(6,_,_)] (K U (K U (K U (K U (K U (K U (Bm _))))))) (Al (fun a ha=>?_))))))));exact ⟨(i+1,k),ha,⟨⟨h1,O,hF⟩,aa⟩,by show _-(i+1)<_-i;omega⟩;have hq:Ae (F.b[i].c=kd)=true:=by simpa using h2
 rw [hq,A8] at hF;refine CU (kq (Ao (Ao (Ay (AF AW U (AL Bj U (E.Q.j U) (As U (Hh AB U U O (AF E6 U (AL DU U ((hcell.a g).one (i:=1) U) (As U (Mb U U (Al (kq (CB U (fun h3=>?_) (fun h3=>?_))))))))))))))));rw [h3,A8] at hF;refine Ao (Ay (AF AW U (AL Bj U (E.Q.j U) (As U (Hh AB U U O (CH A3 U U (hcell.a g) (As U (AS fun _ ga _ g E=>?_))))))));refine AC ?_;rw [hF];exact ⟨⟨p',c',rfl,ab.a g⟩,g⟩;rw [h3,A0] at hF;refine R ?_;refine BL [8,9,1,2,3,6] ?_;refine Al (fun a ha=>?_);exact ⟨(i+1,k+1),ha,⟨⟨h1,O,hF⟩,aa⟩,by show _-(i+1)<_-i;omega⟩;have h1:i=F.b.length:=by simp only [CK] at h1;omega
 rw [List.drop_of_length_le O,GC] at hF;refine AS fun _ ga _ g E=>?_;refine AC ?_;rw [hF];exact ⟨⟨none,0,rfl,Me _ _⟩,g⟩
theorem UV{F:Nd}{n0 b:Nat}{S:An}{w:Ad}(t:Nd)(p:Option Addr)(c:Nat)(h:D4 F n0 b S w):Bx Aj 30 #[.pointer (some ⟨b,0,none⟩),BV t (.slice p t.b.length c)] w fun r w'=>r = .tuple #[]∧D4 F n0 b (IX F t S) w'∧AP DQ n0 w w':=by
 obtain ⟨fv,sv,sn,h⟩:=h;have ag:=h.lt;have g:=AP.refl DQ n0 w;refine Cj 25 [0,1] Tryz.func30 ?_;refine CN fun _ _ ga _ g E=>?_;have h:=Ar h;refine Az (fun h1=>?_) fun h1=>?_;(try simp only [BJ] at h1);refine R ?_;refine DE (Ef none) [3,3,3,0,3,0,1,3,3,3,1,2,3] [0,1,3,7,0,16,63,127,255,255,0,1535,4095] CI Ai [0,1,2,3,4,5,6,7,8,9,10,11,12] U ?_;refine Db fun g E h=>?_;refine Au 0 U U (fun _=>A9 (H U)) (Au 1 U U (fun _=>F8 (H U)) (Au 2 U U (fun _=>AE Ou (H U)) (Bg 3 U U (fun w1 hx=>A2 A3 (H U) U (fun _=>(h.B.A hx (by intro q;first|(injection q with q;omega)|cases q)).row.part 0 9)) (Au 4 U U (fun _=>AE E6 (H U)) (Bg 5 U U (fun w1 hx=>AU DU (H U) (fun _=>(E.E.A hx DC).j U)) (KM 6 10 U U ?_ ?_))))));refine Br (L':=[7,8,9,10,11,12]) [3,3,3,0,3,0,1,3,3,3,1,2,3] rfl rfl rfl ?_;refine AK (Lk F fv _ _ 2 t.i h.kF h.hF) ?_;rintro af ad ⟨⟨ae,ac,rfl,ab⟩,aa⟩;refine ⟨fun _=>aa,?_⟩;have g:=Cc g aa;replace E:=E.a aa;have h:=h.a (aa);refine Bs ((aa).I _) ?_;refine Au 7 U U (fun _=>A9 (H U)) (Au 8 U U (fun _=>FW (H U) U) (Au 9 U U (fun _=>FW (H U) U) (AQ 10 U U ?_)));refine Br (L':=[11,12]) [3,3,3,0,3,0,1,3,3,3,1,2,3] U U U ?_;refine A1 fun _ _ N4 l4 g E=>?_;have h:=h.a (N4.g);refine Bs ((N4.g).I _) ?_;refine AQ 11 U U ?_;refine Ds (L':=[12]) [3,3,3,0,3,0,1,3,3,3,1,2,3] U U U U ?_;refine AR fun _ ga Ca g E h=>?_;refine Dr ?_
 refine Au 12 U U (fun _=>Eu (H U)) (Dp [0,3,5] (FF (kq (Ao (Ay (As U (G2 U U (Al (kq (CB U (fun h2=>?_) (fun h2=>?_)))))))))));(try simp only [BJ] at h2);refine R ?_;refine AK (F5 t.m 5 h.ah) ?_;rintro _ _ ⟨rfl,h,ga⟩;refine AY fun g E=>?_;refine Al (Hl U ?_);refine ⟨rfl,?_,g⟩;unfold IX AH;simp only [h1,h2,A8,A0,Eb,EG];first|exact h|exact h.ah
 refine CU (Hl U ?_);refine ⟨rfl,?_,g⟩;unfold IX AH;simp only [h1,h2,A8,A0,Eb,EG];first|exact h|exact h.ah
 refine Br (L':=[6,7,8,9,11,12]) [3,3,3,0,3,0,1,3,3,3,1,2,3] rfl rfl rfl ?_;refine A1 fun _ _ N4 _ g E=>?_;have h:=h.a (N4.g);refine Bs ((N4.g).I _) ?_;refine AQ 6 U U ?_;refine Br (L':=[7,8,9,11,12]) [3,3,3,0,3,0,1,3,3,3,1,2,3] U U U ?_;refine AK (Lk F fv _ _ 2 t.i h.kF h.hF) ?_;rintro af ad ⟨⟨ae,ac,rfl,ab⟩,aa⟩;refine ⟨fun _=>aa,?_⟩;have g:=Cc g aa;replace E:=E.a aa;have h:=h.a (aa);refine Bs ((aa).I _) ?_;refine Au 7 U U (fun _=>A9 (H U)) (Au 8 U U (fun _=>FW (H U) U) (Au 9 U U (fun _=>FW (H U) U) (AQ 11 U U ?_)));refine Ds (L':=[12]) [3,3,3,0,3,0,1,3,3,3,1,2,3] U U U U ?_;refine AR fun _ ga Ca g E h=>?_;refine Dr ?_;refine Au 12 U U (fun _=>Eu (H U)) (Dp [0,3,5] (FF (kq (Ao (Ay (As U (G2 U U (Al (kq (CB U (fun h2=>?_) (fun h2=>?_)))))))))));(try simp only [BJ] at h2);refine R ?_;refine AK (F5 t.m 5 h.ah) ?_;rintro _ _ ⟨rfl,h,ga⟩;refine AY fun g E=>?_;refine Al (Hl U ?_);refine ⟨rfl,?_,g⟩;unfold IX AH;simp only [h1,h2,A8,A0,Eb,EG];first|exact h|exact h.ah
 refine CU (Hl U ?_);refine ⟨rfl,?_,g⟩;unfold IX AH;simp only [h1,h2,A8,A0,Eb,EG];first|exact h|exact h.ah
 refine CU (Hl U ?_);refine ⟨rfl,?_,g⟩;unfold IX AH;simp only [h1,A8,A0,Eb,EG];first|exact h|exact h.ah
theorem Wy{F:Nd}{n0 b:Nat}{S:An}{w:Ad}(t:Nd)(p:Option Addr)(c:Nat)(h:D4 F n0 b S w):Bx Aj 43 #[.pointer (some ⟨b,0,none⟩),BV t (.slice p t.b.length c)] w fun r w'=>r=D3 (BF t).1∧D4 F n0 b (D0 F t S) w'∧AP DQ n0 w w':=by
 have ad:=h.lt;have g:=AP.refl DQ n0 w;refine Cj 23 [0,1] Tryz.func43 ?_;refine CN fun _ _ ga _ g E=>?_;have h:=Ar h;refine A1 fun _ _ ga _ g E=>?_;have h:=Ar h;refine R ?_;refine AK (UV t _ _ h) ?_;rintro _ _ ⟨rfl,h,ga⟩;refine AY fun g E=>?_;refine R ?_;refine DA (M4 t _ _ _) (fun ac g12=>?_);have g:=Cc g g12;replace E:=E.a g12;have h:=h.a (g12);refine A1 fun _ _ ga _ g E=>?_;have h:=Ar h;refine AR fun _ ga Ca g E h=>?_;refine R ?_;refine DA (Ql _ _) (fun ab aa=>?_);have g:=Cc g aa;replace E:=E.a aa;have h:=h.a (aa);refine Az (fun h1=>?_) fun h1=>?_;have hv:E7 (BF t).1=false:=by simpa using h1
 refine R ?_;refine AK (F5 t.m 7 h) ?_;rintro _ _ ⟨rfl,h,ga⟩;refine AY fun g E=>?_;refine AR fun _ ga Ca g E h=>?_;refine AC ?_;refine ⟨rfl,?_,g⟩;unfold D0 AH;rw [hv];exact h;have hv:E7 (BF t).1=true:=by simpa using h1
 refine AR fun _ ga Ca g E h=>?_;refine AC ?_;refine ⟨rfl,?_,g⟩;unfold D0 AH;rw [hv];exact h
theorem eQ{F:Nd}{n0 b:Nat}{S:An}{w:Ad}(h:D4 F n0 b S w)(hs:S.k≤100000000):Bx Aj 101 #[.pointer (some ⟨b,0,none⟩)] w fun r w'=>r = .tuple #[]∧D4 F n0 b (Ee S) w'∧AP DQ n0 w w':=by
 obtain ⟨fv,sv,sn,h⟩:=h;have g:=AP.refl DQ n0 w;refine Cj 9 [0] Tryz.func101 ?_;refine R ?_;refine CZ U IU (H U) (H U) U U h.B U U ?_;intro wA aa ab BA;have g:=Jl g aa h.B rfl h.hb;have h:=h.set (S':=Ee S) aa BA rfl rfl;refine Al (Hl U ?_);exact ⟨rfl,h.ah,g⟩
theorem LQ{F:Nd}{n0 b:Nat}{S:An}{w:Ad}(t:Nd)(p:Option Addr)(c:Nat)(k a:Int)(h:D4 F n0 b S w):Bx Aj 89 #[.pointer (some ⟨b,0,none⟩),BV t (.slice p t.b.length c),.int .i64 k,.int .i64 a] w fun r w'=>r = .tuple #[]∧D4 F n0 b (DG t k a S) w'∧AP DQ n0 w w':=by
 have aa:=h.lt;have g:=AP.refl DQ n0 w;refine Cj 16 [0,1,2,3] Tryz.func89 ?_;refine CN fun _ _ ga _ g E=>?_;have h:=Ar h;refine Az (fun h1=>?_) fun h1=>?_;have hv:Ae (t.ty.c=k)=false:=by simpa using h1
 refine R ?_;refine AK (F5 a 7 h) ?_;rintro _ _ ⟨rfl,h,ga⟩;refine AY fun g E=>?_;refine Al (Hl U ?_);refine ⟨rfl,?_,g⟩;unfold DG AH;rw [hv];exact h;have hv:Ae (t.ty.c=k)=true:=by simpa using h1
 refine CU (Hl U ?_);refine ⟨rfl,?_,g⟩;unfold DG AH;rw [hv];exact h
theorem gH{l:List DD}{sc:Nat}(h:(Ae ((l.length:Int)>0)&&Ae (((PQ l).k:Int)=sc))=true):0<l.length∧Jv sc l=Jv sc l.dropLast:=by
 simp only [Ap,BQ] at h;rcases Gg l with e|⟨a,x,e⟩;subst e;simp at h;rw [Gx] at e;subst e;have hx:x.k=sc:=by have:=h.2;simp [PQ] at this;omega
 refine ⟨by simp,?_⟩;rw [Ic];unfold Jv;rw [GB,G0,Hf,List.dropWhile_cons_of_pos (by simp [hx])]
theorem oG{l:List DD}{sc:Nat}(h:(Ae ((l.length:Int)>0)&&Ae (((PQ l).k:Int)=sc))=false):Jv sc l=l:=by
 rcases Gg l with e|⟨a,x,e⟩;subst e;rfl;rw [Gx] at e;subst e
 have hx:x.k≠sc:=by
  intro e;rw [Bool.and_eq_false_iff] at h;rcases h with h|h;simp at h;simp [PQ,e] at h
 unfold Jv;rw [GB,G0,Hf,List.dropWhile_cons_of_neg (by simp [hx]),List.reverse_cons,List.reverse_reverse]
theorem jJ{l:List DD}(h:0<l.length):PQ l=l[l.length-1]:=by
 rw [PQ,List.getLast?_eq_getElem?,Dv O];rfl
theorem Th{F:Nd}{n0 b:Nat}{S:An}{w:Ad}(h:D4 F n0 b S w)(hs:S.k≤100000000)(ah:1≤S.k)(hv:S.q.length≤100000000):Bx Aj 102 #[.pointer (some ⟨b,0,none⟩)] w fun r w'=>r = .tuple #[]∧D4 F n0 b (IP S) w'∧AP DQ n0 w w':=by
 have g:=AP.refl DQ n0 w;refine Cj 49 [0] Tryz.func102 ?_;refine Ao (DY (GZ (fun (l:List DD) u1=>(D4 F n0 b { S with q:=l } u1∧Jv S.k S.q=Jv S.k l∧l.length≤100000000)∧AP DQ n0 w u1) [(0,True,_)] (fun (l:List DD)=>[]) (fun (l:List DD)=>l.length) (S.q) ⟨⟨h,rfl,hv⟩,AP.refl _ _ _⟩ (K U (Bm _)) ?_));rintro l u1 ⟨ag,aa⟩;have g:=g.trans aa;obtain ⟨⟨fv,sv,sn,h⟩,hd,hl⟩:=ag;have al:({ S with q:=l }:An).k≤100000000:=hs;have ak:1≤({ S with q:=l }:An).k:=ah;obtain ⟨p,c,rfl,ai,ae⟩:=SF (l:=l) h.ov;refine Ao (Ao (C9 [3,3,3,0,3,3,3,3,3,3,0,3,3,3,0,3,3,3,3,0,3,3,3,0,3,3] ?_));have g:=Ng g;have aa:=aa.trans (AP.J (G.drew _));have h:=h.a (G.drew _);refine As U (Dd U (AF LA U (AL Mi U (h.B.j U) (ED Lq U (RJ U U (As U (AD U U U (fun _=>A9 (H U)) (AD U U U (fun _=>F8 (Am U id)) (AD U U U (fun _=>AE LA (Am U id)) (BU U U U (AU Mi (Am U id) (fun _=>h.B.j U)) (AD U U U (fun _=>A9 (H U)) (AD U U U (fun _=>F8 (Am U id)) (AD U U U (fun _=>AE LA (Am U id)) (BU U U U (AU Mi (Am U id) (fun _=>h.B.j U)) (AD U U U (fun _=>LP Lq (Am U id)) (?_))))))))))))))))
 refine AD U U U (fun _=>JE (Am U id) Bl (fun _=>O)) (AD U U U (fun _=>CS Lq (Am U id) (Am U id) (fun h6=>by have h6:=h6.2;simp only [BQ] at h6;omega) (fun h6=>(ae 0 (by have h6:=h6.2;simp only [BQ] at h6;omega)).1)) (AD U U U (fun _=>AE VJ (Am U id)) (BU U U U (AU Cd (Am U id) (fun h6=>by have af:0<l.length:=(by have h6:=h6.2;simp only [BQ] at h6;omega);have e:((l.length:Int)-1).toNat=l.length-1:=O;rw [e];exact (ae (l.length-1) O).2.one (i:=5) (by rw [← jJ af];rfl))) (AD U U U (fun _=>A9 (H U)) (AD U U U (fun _=>F8 (Am U id)) (AD U U U (fun _=>AE Vm (Am U id)) (BU U U U (AU Cd (Am U id) (fun _=>h.B.j U)) (AD U U U (fun _=>GA (Am U id) (Am U id)) (AG U (fun _=>ES (H U) (Am U id)) (Al (kq (CB U (fun h1=>?_) (fun h1=>?_)))))))))))));obtain ⟨af,ab⟩:=gH h1;refine CU (kq (DY (C9 [3,3,3,3,0,3,3,3,0,3,3,3,3,3,2] ?_)));have g:=Ng g;have aa:=aa.trans (AP.J (G.drew _));have h:=h.a (G.drew _);refine As U (As U (Dd U (AF LA U (AL Mi U (h.B.j U) (As U (Dd U (AF LA U (AL Mi U (h.B.j U) (ED Lq U (AG U (fun _=>JE (H U) Bl (fun _=>O)) (AG U (fun _=>OS Lq (H U) (H U) (fun _=>O)) (Dd U (AF LA U (CZ U QW (H U) (H U) U U h.B U U ?_))))))))))))));intro wA ac am BA;have e:((l.length:Int)-1).toNat=l.dropLast.length:=by rw [List.length_dropLast];omega
 rw [e] at BA;have g:=Jl g ac h.B rfl h.hb;have aa:=Jl aa ac h.B rfl h.hb;have h:=h.bf (S':={ S with q:=l.dropLast }) (Sw _ _) (mO h.ov) ac BA rfl;refine BL [0] ?_;refine Al (fun a ha=>?_);exact ⟨l.dropLast,ha,⟨⟨h.ah,hd.trans ab,by simp;omega⟩,aa⟩,by simp;omega⟩;have ab:=oG h1;refine R ?_;refine CZ U IU (H U) (H U) U U h.B U U ?_;intro wC ad aj BC;have e:(S.k:Int)-1=((S.k-1:Nat):Int):=by omega
 rw [e] at BC;have g:=Jl g ad h.B rfl h.hb;have h:=h.set (S':=IP S) ad (by unfold IP;rw [hd,ab];exact BC) (by show Jv _ _=_;rw [hd,ab]) rfl;refine Al (Hl U ?_);exact ⟨rfl,h.ah,g⟩
theorem mD{l:List DD}{k:Nat}(h:k<l.length)(s:List UInt8):Fc (l.take (k+1)) s=bif Ae (l[k].name=s) then some l[k] else Fc (l.take k) s:=by
 unfold Fc;rw [Jo h,GB,G0,Hf,List.find?_cons];cases Ae (l[k].name=s) <;> rfl
theorem gO{l:List DD}{k:Nat}(h:k<l.length)(p:DD→Bool):(l.take (k+1)).any p=((l.take k).any p || p l[k]):=by
 rw [Jo h,List.any_append];simp
theorem Px{a e:Int}{S:An}(he:e≠0)(p q:Bool):AH (!(p || q)) a e S=(bif q then DI a e (AH (!p) a e S) else AH (!p) a e S):=by
 cases p <;> cases q <;> try rfl
 show DI a e S=DI a e (DI a e S);by_cases h:S.ee=0;have:DI a e S = { S with ea:=a,ee:=e }:=by unfold DI;rw [BW h];rfl
 rw [this];unfold DI;rw [Aq he];rfl;have:DI a e S=S:=by unfold DI;rw [Aq h];rfl
 rw [this,this]
theorem WM{α:Type}{l xs:List α}{m i:Nat}(h:l.take m=xs)(hi:i<m):l[i]? = xs[i]?:=by
 rw [← h,I4,CP hi]
theorem Ut{α:Type}{l:List α}{o:Nat}(h:o<l.length)(v:α):l.set o v=l.take o++[v]++l.drop (o+[v].length):=by
 rw [List.set_eq_take_append_cons_drop,CP h];simp
theorem Wz{w:Ad}{b b':Nat}{e e':Aw}{l l':List Bd}(h:Av w b e l)(h':Av w b' e' l')(he:BM e e'=false):b≠b':=fun q=>by
 subst q;unfold Av at h h';rw [h] at h';injection h' with h';injection h' with _ h';subst h';simp at he
structure KQ (F:Nd):Prop where
  k6:∀ d∈F.b,d.c=6→1≤d.b.length
  k4:∀ d∈F.b,d.c=4→2≤d.b.length
  kp:∀ d∈F.b,d.c=4→∀ f∈(V d 0).b,1≤f.b.length
theorem Nf{kd:Int}{s:List UInt8}:∀ (l:List Nd) (k:Nat),0≤(GC kd s l k).2→(GC kd s l k).1∈l∧(GC kd s l k).1.c=kd
 | [],k,h=>absurd h (show ¬ (0:Int)≤-1 by decide)
 | d::l,k,h=>by
  rw [GC] at h ⊢;cases h1:Ae (d.c=kd);rw [h1,A0] at h;have:=Nf l k h;exact ⟨Jm _ this.1,this.2⟩;rw [h1,A8] at h;rw [A8];cases h2:Ae (d.i=s);rw [h2,A0] at h;have:=Nf l (k+1) h;exact ⟨Jm _ this.1,this.2⟩;exact ⟨List.mem_cons_self,AV h1⟩
theorem KQ.l6{F:Nd}(C':KQ F){s:List UInt8}(h:0≤(Bk F 6 s).2):0<(Bk F 6 s).1.b.length:=C'.k6 _ (Nf _ _ h).1 (Nf _ _ h).2
theorem KQ.l4{F:Nd}(C':KQ F){s:List UInt8}(h:0≤(Bk F 4 s).2):2≤(Bk F 4 s).1.b.length:=C'.k4 _ (Nf _ _ h).1 (Nf _ _ h).2
theorem KQ.lp{F:Nd}(C':KQ F){s:List UInt8}(h:0≤(Bk F 4 s).2):∀ f∈(V (Bk F 4 s).1 0).b,1≤f.b.length:=C'.kp _ (Nf _ _ h).1 (Nf _ _ h).2
def Pp(S:An)(name:List UInt8)(v:DD):Bool:=Ae (v.k=S.k)&&Ae (v.name=name)
theorem P8{F:Nd}{n0 b:Nat}{S:An}{w:Ad}{N:Nat}(name:List UInt8)(y:Bu)(a:Int)(h:D4 F n0 b S w)(hb:EQ S N)(hN:N≤1000000):Bx Aj 42 #[.pointer (some ⟨b,0,none⟩),Co name,D3 y,.int .i64 a] w fun r w'=>r = .int .i64 (Ed S:Nat)∧D4 F n0 b (GF name y a S) w'∧AP DQ n0 w w':=by
 have bc:=h.lt;have aw:=hb.vl;have ao:=hb.nl;have af:=hb.lv;have a5:=Yd hb;have g:=AP.refl DQ n0 w;refine Cj 92 [0,1,2,3] Tryz.func42 ?_;refine CN fun _ w6 ga _ g E=>?_;have h:=Ar h;refine R ?_;refine GZ (fun (i:Nat) u1=>(i≤S.q.length∧D4 F n0 b (AH (!(S.q.take i).any (Pp S name)) a 6 S) u1)∧AP DQ n0 w6 u1) [(0,True,_),(1,True,_),(3,True,_),(6,True,_),(8,True,_)] (fun (i:Nat)=>[(9,True,.int .i64 i)]) (fun (i:Nat)=>S.q.length-i) (0) ⟨⟨Cr _,h⟩,AP.refl _ _ _⟩ (K U (K U (K U (K U (K U (K U (Bm _))))))) ?_;rintro i u1 ⟨ax,ab⟩;have g:=g.trans ab;replace E:=E.gt ab rfl;obtain ⟨hi,hC⟩:=ax;obtain ⟨T,hT⟩:∃ T,T=AH (!(S.q.take i).any (Pp S name)) a 6 S:=⟨_,rfl⟩;rw [← hT] at hC;obtain ⟨q1,q2,q3,q4,q5,_⟩:=NC (!(S.q.take i).any (Pp S name)) a 6 S;rw [← hT] at q1 q2 q3 q4 q5;have ba:=hC;obtain ⟨fv,sv,sn,h⟩:=hC;obtain ⟨pv,cv,rfl,a2,ad⟩:=SF h.ov;have q6:T.q.length≤N:=by rw [q1];exact aw
 refine Az (fun h1=>?_) fun h1=>?_;have h1:i<T.q.length:=by simp only [BQ] at h1;omega
 have ag:i<S.q.length:=by rw [← q1];exact h1
 have ah:=gO ag (Pp S name);have a0:T.q[i]=S.q[i]:=by simp only [q1]
 have hp:Pp S name S.q[i]=(Ae ((T.q[i].k:Int)=(T.k:Nat))&&Ae (T.q[i].name=name)):=by rw [a0,q2,Pp];congr 1;rw [decide_eq_decide];omega
 refine CU (kq (Ao (DY (Ao (C9 [3,3,3,0,3,3,3,0,3,3,3,0,3,3,3,3,3,0,3,3,3,0,3,3,3] ?_)))));have ab:=ab.trans (AP.J (G.drew _));replace E:=E.dr;have h:=h.a (G.drew _);refine As U (Dd U (AF LA U (AL Mi U (h.B.j U) (As U (AG U (fun _=>CS Lq (H U) (H U) (fun _=>O) (fun _=>(ad i h1).1)) (AF VJ U (AL Cd U (((ad i h1).2.a (G.drew _)).one (i:=5) U) (As U (Dd U (AF Vm U (AL Cd U (h.B.j U) (FM U U (As U (AD U U U (fun _=>A9 (H U)) (AD U U U (fun _=>F8 (Am U id)) (?_))))))))))))))));refine AD U U U (fun _=>AE LA (Am U id)) (BU U U U (AU Mi (Am U id) (fun _=>h.B.j U)) (AD U U U (fun _=>A9 (H U)) (AD U U U (fun _=>CS Lq (Am U id) (Am U id) (fun _=>O) (fun _=>(ad i h1).1)) (AD U U U (fun _=>AE Yo (Am U id)) (BU U U U (AU DU (Am U id) (fun _=>((ad i h1).2.a (G.drew _)).one (i:=0) U)) (AD U U U (fun _=>A9 (H U)) (AD U U U (fun _=>QC (Am U id) (Am U id)) (AG U (fun _=>ES (H U) (Am U id)) (Al (kq (CB U (fun h2=>?_) (fun h2=>?_))))))))))));rw [h2] at hp;refine R ?_;refine AK (F5 a 6 h.ah) ?_;rintro a4 a8 ⟨rfl,hC,ak⟩;refine ⟨E3,?_⟩;have ab:=ab.trans ak;replace E:=E.gt ak rfl;refine R ?_;refine BL [9,0,1,3,6,8] ?_;refine Al (fun a ha=>?_)
 exact ⟨i+1,ha,⟨⟨ag,by rw [ah,Px Cb,hp,← hT];exact hC⟩,ab⟩,O⟩;rw [h2] at hp;refine R ?_;refine BL [9,0,1,3,6,8] ?_;refine Al (fun a ha=>?_);exact ⟨i+1,ha,⟨⟨ag,by rw [ah,Px Cb,hp,← hT];exact h.ah⟩,ab⟩,O⟩;have h1:i=S.q.length:=by rw [← q1];simp only [CK] at h1;rw [← q1] at hi;omega
 subst h1;rw [FB] at hT;have a6:T.n<T.next.length:=by rw [q3,q4];exact af
 have a9:T.next.length≤N+1:=by rw [q4];exact ao
 obtain ⟨gs,cs,ls,rfl,av,aa,a1,an,ai,az⟩:=OZ h.on O
 have al:ls[0+T.n*1]? = some (.int .i64 (Ed S:Nat)):=by
  rw [WM ai O,show 0+T.n*1=T.n by omega,List.getElem?_map,q4,q3,Dv af,Ed,List.getD_eq_getElem?_getD,Dv af];rfl
 refine R ?_;refine C9 [3,3,3,0,3,3,3,0,3,0,3] ?_;refine Db fun g E h=>?_;have aa:=aa.a (G.drew _);refine As U (Dd U (AF P9 U (AL Nn U (h.B.j U) (As U (Dd U (AF RP U (AL Cd U (h.B.j U) (Hh GR U U O (AL Cd U (aa.j al) (BO U (Al (kq (Ao (C9 [3,3,3,0,3,3,3,0,3,0,3,3,2] ?_))))))))))))));refine Db fun g E h=>?_;have aa:=aa.a (G.drew _);refine As U (Dd U (AF P9 U (AL Nn U (h.B.j U) (As U (Dd U (AF RP U (AL Cd U (h.B.j U) (Hh GR U U O (AL Cd U (aa.j al) (IB U U O (Hh GR U U O (CZ U IU (H U) (H U) U U aa (Nat.ble_eq.mpr (by have:=an;have:=a1;simp;omega)) U ?_))))))))))));intro wA ae a3 BA;have g:=Jl g ae aa rfl av;replace E:=E.ae ae aa rfl;replace BA:Av wA gs 3 (ls.set (0+T.n*1) (Value.int .i64 ((Ed S:Nat)+1))):=by rw [Ut O];exact BA
 have hO:=az _ _ BA (by rw [Fy];exact an)
 have e5:(ls.set (0+T.n*1) (Value.int .i64 ((Ed S:Nat)+1))).take (T.next.length*1)=(T.next.set T.n (Ed S+1)).map fun (k:Nat)=>Value.int .i64 (k:Int):=by
  rw [take_set _ _ _ _ O,ai,List.map_set,show 0+T.n*1=T.n by omega];rfl
 have h:=h.cb (S':={ T with next:=T.next.set T.n (Ed S+1) }) ae (by
  show wA.ownsRow n0 3 1 _ (T.next.set T.n (Ed S+1)).length _;rw [Fy];exact e5▸hO) rfl
 have q7:({ T with next:=T.next.set T.n (Ed S+1) }:An).q.length≤N:=q6;refine R ?_;refine C9 [3,3,3,3,0,3,0,3,3,3,3,0,3,3,3,0,3,1,2,3,3,2] ?_;refine Db fun g E h=>?_;refine R ?_;refine Gi Ta dA (A5 U (A5 U (A5 U (A5 U (A5 U Cz))))) U U (Ch fun _ _ am _ g E=>?_);have h:=h.a (am.g);refine ID U Lq Ta U Cb (H U) h.ov (H U) U am.p.row U (by simp only [maxLen];omega) O Dj ?_;intro pw cw ar ay ac ap;have g:=fF g h.ov rfl ac;have aq:(T.q++[(⟨name,y,Ed S,T.n,T.k⟩:DD)]).length=T.q.length+1:=by simp
 have au:(T.q++[(⟨name,y,Ed S,T.n,T.k⟩:DD)]).flatMap JB=T.q.flatMap JB++JB (⟨name,y,Ed S,T.n,T.k⟩:DD):=by simp
 refine R ?_;refine CZ U QW (H U) (H U) U U (h.bc ac).1 U U ?_;intro wC aj a7 BC;have g:=Jl g aj (h.bc ac).1 rfl h.hb
 have h:=h.bf (S':={ T with next:=T.next.set T.n (Ed S+1),q:=T.q++[(⟨name,y,Ed S,T.n,T.k⟩:DD)] }) ac (by
  show ar.ownsRow n0 83 6 (.slice pw (T.q.length+1) cw) (T.q++[(⟨name,y,Ed S,T.n,T.k⟩:DD)]).length ((T.q++[(⟨name,y,Ed S,T.n,T.k⟩:DD)]).flatMap JB);rw [aq,au];exact ay) aj BC rfl
 refine AC ?_;refine ⟨rfl,?_,g⟩
 have e:GF name y a S = { T with next:=T.next.set T.n (Ed S+1),q:=T.q++[(⟨name,y,Ed S,T.n,T.k⟩:DD)] }:=by
  unfold GF;rw [show AH (!Ku S name) a 6 S=T from hT.symm];dsimp only;rw [q1,q2,q3,q4]
 rw [e];exact h.ah
theorem Wh{F:Nd}{n0 b:Nat}{S:An}{w:Ad}{N:Nat}(C':KQ F)(t:Nd)(p:Option Addr)(c:Nat)(h:D4 F n0 b S w)(hb:EQ S N)(hN:N≤1000000):Bx Aj 105 #[.pointer (some ⟨b,0,none⟩),BV t (.slice p t.b.length c)] w fun r w'=>r = .tuple #[BV (CE F S t).1 (.slice none 0 0),.bool (CE F S t).2]∧G w w':=by
 obtain ⟨fv,sv,sn,h⟩:=h;have bk:=h.lt;have bj:=hb.vl;have bg:=hb.nl;have bh:=hb.lv;obtain ⟨pv,cv,rfl,be,a0⟩:=SF h.ov;have g:=G.refl w;refine Cj 112 [0,1] Tryz.func105 ?_;refine CN fun _ _ _ _ g E=>?_;refine A1 fun _ _ _ l4 g E=>?_;refine R ?_;refine AK (H9 t _ _ _) ?_;rintro _ _ ⟨rfl,ga⟩;refine AY fun g E=>?_;refine A1 fun b6 _ _ l6 g E=>?_;refine AS fun a4 _ _ g E=>?_;refine Al (kq (Ao (Ao (Ay (As U (Dd U (AF LA U (AL Mi U ((h.B.a g).j U) (ED Lq U (AG U (fun _=>JE (H U) Bl (fun _=>O)) (BO U (Al (kq (DY (GZ (fun (j:Nat) u1=>(j≤S.q.length∧Fc S.q t.i=Fc (S.q.take j) t.i)∧G a4 u1) [(0,True,_),(3,True,_),(4,True,_),(6,True,_)] (fun (j:Nat)=>[(7,True,.int .i64 ((j:Int)-1))]) (fun (j:Nat)=>j) (S.q.length) ⟨⟨AN _,by rw [FB]⟩,G.refl _⟩ (K U (K U (K U (K U (K U (Bm _)))))) ?_)))))))))))))));rintro j u1 ⟨a9,ab⟩;have g:=g.trans ab;replace E:=E.a ab;obtain ⟨hj,hF⟩:=a9;refine Az (fun h1=>?_) fun h1=>?_;have h1:1≤j:=by simp only [BQ] at h1;omega
 obtain ⟨k,rfl⟩:∃ k,j=k+1:=⟨j-1,O⟩;have e:(((k+1:Nat):Int)-1).toNat=k:=by omega
 have hk:k<S.q.length:=hj;have bi:=hb.vs _ (Ei hk);rw [mD hk] at hF;refine CU (kq (Ao (DY (Ao (Ay (As U (Dd U (AF LA U (AL Mi U ((h.B.a g).j U) (As U (AG U (fun _=>CS Lq (H U) (H U) (fun _=>O) (fun _=>(a0 k hk).1)) (CH dO U U (by rw [e];exact (a0 k hk).2.a g) (A1 fun _ _ ga _ g E=>?_)))))))))))));have a3:=ga.ge ab;have ab:=ab.trans (ga.g);refine AS fun _ ga _ g E=>?_;replace ab:=CO ab ga O;refine Az (fun h2=>?_) fun h2=>?_;rw [h2,A8] at hF;refine R ?_;refine DE (Ef (some b6)) [3,0,3,3,3,0,3,0,3,3,0,3,1,3,1,3,1,3,1] [0,1,0,4,12,28,0,64,252,0,512,0,2048,6147,14339,31231,63999,131071,262143] CI Ai [0,1,2,3,4,5,6,7,8,9,10,11,12,13,14,15,16,17,18] U ?_;have g:=Ho g;have ab:=ab.trans (G.drew _);replace E:=E.dr
 refine Au 0 U U (fun _=>AE bH (H U)) (Bg 1 U U (fun w1 hx=>AU Cd (H U) (fun _=>(E.E.A hx (fun h=>E.W 0 1 U U U (EM h))).j U)) (Au 2 U U (fun _=>A9 (H U)) (Au 3 U U (fun _=>F8 (H U)) (Au 4 U U (fun _=>AE RP (H U)) (Bg 5 U U (fun w1 hx=>AU Cd (H U) (fun _=>((h.B.a g).A hx (by intro q;first|(injection q with q;omega)|cases q)).j U)) (Au 6 U U (fun _=>AE aU (H U)) (Bg 7 U U (fun w1 hx=>AU Cd (H U) (fun _=>(E.E.A hx (fun h=>E.W 0 1 U U U (EM h))).j U)) (Au 8 U U (fun _=>JE (H U) (H U) (fun _=>O)) (Au 9 U U (fun _=>AE dU (H U)) (Bg 10 U U (fun w1 hx=>A2 Ci (H U) U (fun _=>(E.E.A hx (fun h=>E.W 0 1 U U U (EM h))).row.part 1 2)) (Au 11 U U (fun _=>AE O7 (H U)) (AQ 12 U U ?_))))))))))));refine Br (L':=[13,14,15,16,17,18]) [3,0,3,3,3,0,3,0,3,3,0,3,2,3,2,3,2,3,2] U U U ?_;refine AS fun _ az _ g E=>?_;refine Bs (az) ?_;refine Au 13 U U (fun _=>AE Lf (H U)) (AQ 14 U U ?_);refine Br (L':=[15,16,17,18]) [3,0,3,3,3,0,3,0,3,3,0,3,2,3,2,3,2,3,2] U U U ?_;refine AS fun _ a1 _ g E=>?_;refine Bs (a1) ?_;refine Au 15 U U (fun _=>AE Vf (H U)) (AQ 16 U U ?_);refine Br (L':=[17,18]) [3,0,3,3,3,0,3,0,3,3,0,3,2,3,2,3,2,3,2] U U U ?_;refine AS fun _ a2 _ g E=>?_;refine Bs (a2) ?_;refine Au 17 U U (fun _=>AE Fl (H U)) (AQ 18 U U ?_);refine Br (L':=[]) [3,0,3,3,3,0,3,0,3,3,0,3,2,3,2,3,2,3,2] U U U ?_;refine CZ U E0 (H U) (H U) U U E.Q U U ?_;intro bf an _ BS
 replace E:=E.s1 an BS;have g:=CO g an O;refine Bs (an) ?_;refine Dp [0,3,4,6,7] ?_;refine AS fun _ ga _ g E=>?_;refine AC ?_;refine ⟨?_,g⟩;unfold CE;rw [hF];rfl;rw [h2,A0] at hF;refine R ?_;refine BL [7,0,3,4,6] ?_;refine Al (fun a ha=>?_);exact ⟨k,by rw [show ((k+1:Nat):Int)-1-1=(k:Int)-1 by omega] at ha;exact ha,⟨⟨O,hF⟩,ab⟩,O⟩;have h1:j=0:=by simp only [CK] at h1;omega
 subst h1;replace hF:Fc S.q t.i=none:=hF;refine R ?_;refine DE (Ef none) [3,3,3,0,3,0,1,3,3,3,1,2,3] [0,1,3,7,0,16,63,127,255,255,0,1535,4095] CI Ai [0,1,2,3,4,5,6,7,8,9,10,11,12] U ?_;have g:=Ho g;have ab:=ab.trans (G.drew _);replace E:=E.dr;refine Au 0 U U (fun _=>A9 (H U)) (Au 1 U U (fun _=>F8 (H U)) (Au 2 U U (fun _=>AE Ou (H U)) (Bg 3 U U (fun w1 hx=>A2 A3 (H U) U (fun _=>((h.B.a g).A hx (by intro q;first|(injection q with q;omega)|cases q)).row.part 0 9)) (Au 4 U U (fun _=>AE E6 (H U)) (Bg 5 U U (fun w1 hx=>AU DU (H U) (fun _=>(E.g2.A hx DC).j U)) (KM 6 10 U U ?_ ?_))))));refine Br (L':=[7,8,9,10,11,12]) [3,3,3,0,3,0,1,3,3,3,1,2,3] rfl rfl rfl ?_;refine AK (Lk F fv _ _ 6 t.i (h.kF.a g) h.hF) ?_;rintro a7 a5 ⟨⟨ba,a8,rfl,ac⟩,aj⟩;refine ER aj fun g=>?_;have ab:=ab.trans (aj);replace E:=E.a aj;refine Bs ((aj).I _) ?_;refine Au 7 U U (fun _=>A9 (H U)) (Au 8 U U (fun _=>FW (H U) U) (Au 9 U U (fun _=>FW (H U) U) (AQ 10 U U ?_)));refine Br (L':=[11,12]) [3,3,3,0,3,0,1,3,3,3,1,2,3] U U U ?_;refine A1 fun _ _ N9 l9 g E=>?_;have ao:=N9.ge ab;have ab:=ab.trans (N9.g);have ac:=ac.a (N9.g);refine Bs ((N9.g).I _) ?_;refine AQ 11 U U ?_;refine Ds (L':=[12]) [3,3,3,0,3,0,1,3,3,3,1,2,3] U U U U ?_;refine AS fun _ ga _ g E=>?_;replace ab:=CO ab ga O;have ac:=Cq ac;refine Dr ?_
 refine Au 12 U U (fun _=>Eu (H U)) (Dp [0,3,4,6,9,10,53,54,55,56,57,58,59,60,61,62] (FF (kq (Ao (Ay (As U (NE U U (Al (kq (CB U (fun h3=>?_) (fun h3=>?_)))))))))));have h3:0≤(Bk F 6 t.i).2:=by simp only [BQ] at h3;omega
 have au:=C'.l6 h3;refine AS fun _ ga _ g E=>?_;have ac:=Cq ac;refine AS fun _ ga _ g E=>?_;have ac:=Cq ac;refine R ?_;obtain ⟨e0,p1,c1,hcell,ak⟩:=Ba ac (i:=0) au;refine R ?_;refine DA (M4 (V (Bk F 6 t.i).1 0) _ _ _) (Do fun a6 bc g E=>?_);refine R ?_;refine CZ U E0 (H U) (H U) U U E.Q U U ?_;intro ax ai _ BS;replace E:=E.s1 ai BS;have g:=CO g ai O;refine AS fun _ ga _ g E=>?_;refine AC ?_;refine ⟨?_,g⟩;unfold CE;rw [hF];dsimp only;rw [BW h3];rfl;have h3:¬ 0≤(Bk F 6 t.i).2:=by simp only [CK] at h3;omega
 refine R ?_;refine DE (Ef none) [3,3,3,0,3,0,1,3,3,3,1,2,3] [0,1,3,7,0,16,63,127,255,255,0,1535,4095] CI Ai [0,1,2,3,4,5,6,7,8,9,10,11,12] U ?_;have g:=Ho g;have ab:=ab.trans (G.drew _);replace E:=E.dr;refine Au 0 U U (fun _=>A9 (H U)) (Au 1 U U (fun _=>F8 (H U)) (Au 2 U U (fun _=>AE Ou (H U)) (Bg 3 U U (fun w1 hx=>A2 A3 (H U) U (fun _=>((h.B.a g).A hx (by intro q;first|(injection q with q;omega)|cases q)).row.part 0 9)) (Au 4 U U (fun _=>AE E6 (H U)) (Bg 5 U U (fun w1 hx=>AU DU (H U) (fun _=>(E.g3.A hx DC).j U)) (KM 6 10 U U ?_ ?_))))));refine Br (L':=[7,8,9,10,11,12]) [3,3,3,0,3,0,1,3,3,3,1,2,3] rfl rfl rfl ?_;refine AK (Lk F fv _ _ 4 t.i (h.kF.a g) h.hF) ?_;rintro ap ar ⟨⟨av,aw,rfl,aa⟩,ae⟩;refine ER ae fun g=>?_;have ab:=ab.trans (ae);replace E:=E.a ae;refine Bs ((ae).I _) ?_;refine Au 7 U U (fun _=>A9 (H U)) (Au 8 U U (fun _=>FW (H U) U) (Au 9 U U (fun _=>FW (H U) U) (AQ 10 U U ?_)));refine Br (L':=[11,12]) [3,3,3,0,3,0,1,3,3,3,1,2,3] U U U ?_;refine A1 fun _ _ ag ay g E=>?_;have ah:=ag.ge ab;have ab:=ab.trans (ag.g);have aa:=aa.a (ag.g);refine Bs ((ag.g).I _) ?_;refine AQ 11 U U ?_;refine Ds (L':=[12]) [3,3,3,0,3,0,1,3,3,3,1,2,3] U U U U ?_;refine AS fun _ ga _ g E=>?_;replace ab:=CO ab ga O;have aa:=Cq aa;refine Dr ?_
 refine Au 12 U U (fun _=>Eu (H U)) (Dp [0,3,4,6,9,10,11,12,53,54,55,56,57,58,59,60,61,62,63,64,78,79,80,81,82,83,84,85,86,87] (FF (kq (Ao (Ay (As U (NE U U (Al (kq (CB U (fun h4=>?_) (fun h4=>?_)))))))))));have h4:0≤(Bk F 4 t.i).2:=by simp only [BQ] at h4;omega
 have aq:=C'.l4 h4;refine AS fun _ ga _ g E=>?_;have aa:=Cq aa;refine AF Lf U (AS fun _ ga _ g E=>?_);have aa:=Cq aa;refine Al (kq (Ao (Ao (Ay (?_)))));obtain ⟨e0,p1,c1,hcell,ak⟩:=Ba aa (i:=0) O;obtain ⟨e1,p2,c2,af,al⟩:=Ba aa (i:=1) O;refine AF AW U (AL Bj U (E.E.j U) (Dn AB U U O e0 (AF AW U (AL Bj U (hcell.one (i:=4) U) (ED AB U (FM U U (As U (AD U U U (fun _=>AE AW (H U)) (BU U U U (AU Bj (Am U id) (fun _=>E.E.j U)) (AD U U U (fun _=>CS AB (Am U id) Bl (fun _=>O) (fun _=>e1)) (AD U U U (fun _=>AE FK (Am U id)) (BU U U U (AU Cd (Am U id) (fun _=>af.one (i:=0) U)) (AD U U U (fun _=>GA (Am U id) Bl) (AG U (fun _=>ES (H U) (Am U id)) (Al (kq (?_)))))))))))))))));refine CB U (fun h5=>?_) (fun h5=>?_);(try simp only [BJ] at h5);refine R ?_;refine CZ U E0 (H U) (H U) U U E.g2 U U ?_;intro am ad _ BS;replace E:=E.s2 ad BS;have g:=CO g ad O;refine AS fun _ ga _ g E=>?_;refine AC ?_;refine ⟨?_,g⟩;unfold CE;rw [hF];dsimp only;rw [Aq h3,BW h4,Kk,h5];rfl;refine AS fun _ ga _ g E=>?_;refine AC ?_;refine ⟨?_,g⟩;unfold CE;rw [hF];dsimp only;rw [Aq h3,BW h4,Kk,h5];rfl;have h4:¬ 0≤(Bk F 4 t.i).2:=by simp only [CK] at h4;omega
 refine AS fun _ ga _ g E=>?_;refine AC ?_;refine ⟨?_,g⟩;unfold CE;rw [hF];dsimp only;rw [Aq h3,Aq h4];rfl;refine Br (L':=[6,7,8,9,11,12]) [3,3,3,0,3,0,1,3,3,3,1,2,3] rfl rfl rfl ?_;refine A1 fun _ _ ag ay g E=>?_;have ah:=ag.ge ab;have ab:=ab.trans (ag.g);refine Bs ((ag.g).I _) ?_;refine AQ 6 U U ?_;refine Br (L':=[7,8,9,11,12]) [3,3,3,0,3,0,1,3,3,3,1,2,3] U U U ?_;refine AK (Lk F fv _ _ 4 t.i (h.kF.a g) h.hF) ?_;rintro ap ar ⟨⟨av,aw,rfl,aa⟩,ae⟩;refine ER ae fun g=>?_;have ab:=ab.trans (ae);replace E:=E.a ae;refine Bs ((ae).I _) ?_;refine Au 7 U U (fun _=>A9 (H U)) (Au 8 U U (fun _=>FW (H U) U) (Au 9 U U (fun _=>FW (H U) U) (AQ 11 U U ?_)));refine Ds (L':=[12]) [3,3,3,0,3,0,1,3,3,3,1,2,3] U U U U ?_;refine AS fun _ ga _ g E=>?_;replace ab:=CO ab ga O;have aa:=Cq aa;refine Dr ?_;refine Au 12 U U (fun _=>Eu (H U)) (Dp [0,3,4,6,9,10,11,12,53,54,55,56,57,58,59,60,61,62,63,64,78,79,80,81,82,83,84,85,86,87] (FF (kq (Ao (Ay (As U (NE U U (Al (kq (CB U (fun h4=>?_) (fun h4=>?_)))))))))));have h4:0≤(Bk F 4 t.i).2:=by simp only [BQ] at h4;omega
 have aq:=C'.l4 h4;refine AS fun _ ga _ g E=>?_;have aa:=Cq aa;refine AF Lf U (AS fun _ ga _ g E=>?_);have aa:=Cq aa;refine Al (kq (Ao (Ao (Ay (?_)))));obtain ⟨e0,p1,c1,hcell,ak⟩:=Ba aa (i:=0) O;obtain ⟨e1,p2,c2,af,al⟩:=Ba aa (i:=1) O;refine AF AW U (AL Bj U (E.E.j U) (Dn AB U U O e0 (AF AW U (AL Bj U (hcell.one (i:=4) U) (ED AB U (FM U U (As U (AD U U U (fun _=>AE AW (H U)) (BU U U U (AU Bj (Am U id) (fun _=>E.E.j U)) (AD U U U (fun _=>CS AB (Am U id) Bl (fun _=>O) (fun _=>e1)) (AD U U U (fun _=>AE FK (Am U id)) (BU U U U (AU Cd (Am U id) (fun _=>af.one (i:=0) U)) (AD U U U (fun _=>GA (Am U id) Bl) (AG U (fun _=>ES (H U) (Am U id)) (Al (kq (?_)))))))))))))))));refine CB U (fun h5=>?_) (fun h5=>?_);(try simp only [BJ] at h5);refine R ?_;refine CZ U E0 (H U) (H U) U U E.g2 U U ?_;intro am ad _ BS;replace E:=E.s2 ad BS;have g:=CO g ad O;refine AS fun _ ga _ g E=>?_;refine AC ?_;refine ⟨?_,g⟩;unfold CE;rw [hF];dsimp only;rw [Aq h3,BW h4,Kk,h5];rfl;refine AS fun _ ga _ g E=>?_;refine AC ?_;refine ⟨?_,g⟩;unfold CE;rw [hF];dsimp only;rw [Aq h3,BW h4,Kk,h5];rfl;have h4:¬ 0≤(Bk F 4 t.i).2:=by simp only [CK] at h4;omega
 refine AS fun _ ga _ g E=>?_;refine AC ?_;refine ⟨?_,g⟩;unfold CE;rw [hF];dsimp only;rw [Aq h3,Aq h4];rfl;refine Br (L':=[6,7,8,9,11,12]) [3,3,3,0,3,0,1,3,3,3,1,2,3] rfl rfl rfl ?_;refine A1 fun _ _ N9 _ g E=>?_;have ao:=N9.ge ab;have ab:=ab.trans (N9.g);refine Bs ((N9.g).I _) ?_;refine AQ 6 U U ?_;refine Br (L':=[7,8,9,11,12]) [3,3,3,0,3,0,1,3,3,3,1,2,3] U U U ?_;refine AK (Lk F fv _ _ 6 t.i (h.kF.a g) h.hF) ?_;rintro a7 a5 ⟨⟨ba,a8,rfl,ac⟩,aj⟩;refine ER aj fun g=>?_;have ab:=ab.trans (aj);replace E:=E.a aj;refine Bs ((aj).I _) ?_;refine Au 7 U U (fun _=>A9 (H U)) (Au 8 U U (fun _=>FW (H U) U) (Au 9 U U (fun _=>FW (H U) U) (AQ 11 U U ?_)));refine Ds (L':=[12]) [3,3,3,0,3,0,1,3,3,3,1,2,3] U U U U ?_;refine AS fun _ ga _ g E=>?_;replace ab:=CO ab ga O;have ac:=Cq ac;refine Dr ?_;refine Au 12 U U (fun _=>Eu (H U)) (Dp [0,3,4,6,9,10,53,54,55,56,57,58,59,60,61,62] (FF (kq (Ao (Ay (As U (NE U U (Al (kq (CB U (fun h3=>?_) (fun h3=>?_)))))))))));have h3:0≤(Bk F 6 t.i).2:=by simp only [BQ] at h3;omega
 have au:=C'.l6 h3;refine AS fun _ ga _ g E=>?_;have ac:=Cq ac;refine AS fun _ ga _ g E=>?_;have ac:=Cq ac;refine R ?_;obtain ⟨e0,p1,c1,hcell,ak⟩:=Ba ac (i:=0) au;refine R ?_;refine DA (M4 (V (Bk F 6 t.i).1 0) _ _ _) (Do fun a6 bc g E=>?_);refine R ?_;refine CZ U E0 (H U) (H U) U U E.Q U U ?_;intro ax ai _ BS;replace E:=E.s1 ai BS;have g:=CO g ai O;refine AS fun _ ga _ g E=>?_;refine AC ?_;refine ⟨?_,g⟩;unfold CE;rw [hF];dsimp only;rw [BW h3];rfl;have h3:¬ 0≤(Bk F 6 t.i).2:=by simp only [CK] at h3;omega
 refine R ?_;refine DE (Ef none) [3,3,3,0,3,0,1,3,3,3,1,2,3] [0,1,3,7,0,16,63,127,255,255,0,1535,4095] CI Ai [0,1,2,3,4,5,6,7,8,9,10,11,12] U ?_;have g:=Ho g;have ab:=ab.trans (G.drew _);replace E:=E.dr;refine Au 0 U U (fun _=>A9 (H U)) (Au 1 U U (fun _=>F8 (H U)) (Au 2 U U (fun _=>AE Ou (H U)) (Bg 3 U U (fun w1 hx=>A2 A3 (H U) U (fun _=>((h.B.a g).A hx (by intro q;first|(injection q with q;omega)|cases q)).row.part 0 9)) (Au 4 U U (fun _=>AE E6 (H U)) (Bg 5 U U (fun w1 hx=>AU DU (H U) (fun _=>(E.g3.A hx DC).j U)) (KM 6 10 U U ?_ ?_))))));refine Br (L':=[7,8,9,10,11,12]) [3,3,3,0,3,0,1,3,3,3,1,2,3] rfl rfl rfl ?_;refine AK (Lk F fv _ _ 4 t.i (h.kF.a g) h.hF) ?_;rintro ap ar ⟨⟨av,aw,rfl,aa⟩,ae⟩;refine ER ae fun g=>?_;have ab:=ab.trans (ae);replace E:=E.a ae;refine Bs ((ae).I _) ?_;refine Au 7 U U (fun _=>A9 (H U)) (Au 8 U U (fun _=>FW (H U) U) (Au 9 U U (fun _=>FW (H U) U) (AQ 10 U U ?_)));refine Br (L':=[11,12]) [3,3,3,0,3,0,1,3,3,3,1,2,3] U U U ?_;refine A1 fun _ _ ag ay g E=>?_;have ah:=ag.ge ab;have ab:=ab.trans (ag.g);have aa:=aa.a (ag.g);refine Bs ((ag.g).I _) ?_;refine AQ 11 U U ?_;refine Ds (L':=[12]) [3,3,3,0,3,0,1,3,3,3,1,2,3] U U U U ?_;refine AS fun _ ga _ g E=>?_;replace ab:=CO ab ga O;have aa:=Cq aa;refine Dr ?_
 refine Au 12 U U (fun _=>Eu (H U)) (Dp [0,3,4,6,9,10,11,12,53,54,55,56,57,58,59,60,61,62,63,64,78,79,80,81,82,83,84,85,86,87] (FF (kq (Ao (Ay (As U (NE U U (Al (kq (CB U (fun h4=>?_) (fun h4=>?_)))))))))));have h4:0≤(Bk F 4 t.i).2:=by simp only [BQ] at h4;omega
 have aq:=C'.l4 h4;refine AS fun _ ga _ g E=>?_;have aa:=Cq aa;refine AF Lf U (AS fun _ ga _ g E=>?_);have aa:=Cq aa;refine Al (kq (Ao (Ao (Ay (?_)))));obtain ⟨e0,p1,c1,hcell,ak⟩:=Ba aa (i:=0) O;obtain ⟨e1,p2,c2,af,al⟩:=Ba aa (i:=1) O;refine AF AW U (AL Bj U (E.E.j U) (Dn AB U U O e0 (AF AW U (AL Bj U (hcell.one (i:=4) U) (ED AB U (FM U U (As U (AD U U U (fun _=>AE AW (H U)) (BU U U U (AU Bj (Am U id) (fun _=>E.E.j U)) (AD U U U (fun _=>CS AB (Am U id) Bl (fun _=>O) (fun _=>e1)) (AD U U U (fun _=>AE FK (Am U id)) (BU U U U (AU Cd (Am U id) (fun _=>af.one (i:=0) U)) (AD U U U (fun _=>GA (Am U id) Bl) (AG U (fun _=>ES (H U) (Am U id)) (Al (kq (?_)))))))))))))))));refine CB U (fun h5=>?_) (fun h5=>?_);(try simp only [BJ] at h5);refine R ?_;refine CZ U E0 (H U) (H U) U U E.g2 U U ?_;intro am ad _ BS;replace E:=E.s2 ad BS;have g:=CO g ad O;refine AS fun _ ga _ g E=>?_;refine AC ?_;refine ⟨?_,g⟩;unfold CE;rw [hF];dsimp only;rw [Aq h3,BW h4,Kk,h5];rfl;refine AS fun _ ga _ g E=>?_;refine AC ?_;refine ⟨?_,g⟩;unfold CE;rw [hF];dsimp only;rw [Aq h3,BW h4,Kk,h5];rfl;have h4:¬ 0≤(Bk F 4 t.i).2:=by simp only [CK] at h4;omega
 refine AS fun _ ga _ g E=>?_;refine AC ?_;refine ⟨?_,g⟩;unfold CE;rw [hF];dsimp only;rw [Aq h3,Aq h4];rfl;refine Br (L':=[6,7,8,9,11,12]) [3,3,3,0,3,0,1,3,3,3,1,2,3] rfl rfl rfl ?_;refine A1 fun _ _ ag _ g E=>?_;have ah:=ag.ge ab;have ab:=ab.trans (ag.g);refine Bs ((ag.g).I _) ?_;refine AQ 6 U U ?_;refine Br (L':=[7,8,9,11,12]) [3,3,3,0,3,0,1,3,3,3,1,2,3] U U U ?_;refine AK (Lk F fv _ _ 4 t.i (h.kF.a g) h.hF) ?_;rintro ap ar ⟨⟨av,aw,rfl,aa⟩,ae⟩;refine ER ae fun g=>?_;have ab:=ab.trans (ae);replace E:=E.a ae;refine Bs ((ae).I _) ?_;refine Au 7 U U (fun _=>A9 (H U)) (Au 8 U U (fun _=>FW (H U) U) (Au 9 U U (fun _=>FW (H U) U) (AQ 11 U U ?_)));refine Ds (L':=[12]) [3,3,3,0,3,0,1,3,3,3,1,2,3] U U U U ?_;refine AS fun _ ga _ g E=>?_;have aa:=Cq aa;refine Dr ?_;refine Au 12 U U (fun _=>Eu (H U)) (Dp [0,3,4,6,9,10,11,12,53,54,55,56,57,58,59,60,61,62,63,64,78,79,80,81,82,83,84,85,86,87] (FF (kq (Ao (Ay (As U (NE U U (Al (kq (CB U (fun h4=>?_) (fun h4=>?_)))))))))));have h4:0≤(Bk F 4 t.i).2:=by simp only [BQ] at h4;omega
 have aq:=C'.l4 h4;refine AS fun _ ga _ g E=>?_;have aa:=Cq aa;refine AF Lf U (AS fun _ ga _ g E=>?_);have aa:=Cq aa;refine Al (kq (Ao (Ao (Ay (?_)))));obtain ⟨e0,p1,c1,hcell,ak⟩:=Ba aa (i:=0) O;obtain ⟨e1,p2,c2,af,al⟩:=Ba aa (i:=1) O;refine AF AW U (AL Bj U (E.E.j U) (Dn AB U U O e0 (AF AW U (AL Bj U (hcell.one (i:=4) U) (ED AB U (FM U U (As U (AD U U U (fun _=>AE AW (H U)) (BU U U U (AU Bj (Am U id) (fun _=>E.E.j U)) (AD U U U (fun _=>CS AB (Am U id) Bl (fun _=>O) (fun _=>e1)) (AD U U U (fun _=>AE FK (Am U id)) (BU U U U (AU Cd (Am U id) (fun _=>af.one (i:=0) U)) (AD U U U (fun _=>GA (Am U id) Bl) (AG U (fun _=>ES (H U) (Am U id)) (Al (kq (?_)))))))))))))))));refine CB U (fun h5=>?_) (fun h5=>?_);(try simp only [BJ] at h5);refine R ?_;refine CZ U E0 (H U) (H U) U U E.g2 U U ?_;intro am ad _ BS;replace E:=E.s2 ad BS;have g:=CO g ad O;refine AS fun _ ga _ g E=>?_;refine AC ?_;refine ⟨?_,g⟩;unfold CE;rw [hF];dsimp only;rw [Aq h3,BW h4,Kk,h5];rfl;refine AS fun _ ga _ g E=>?_;refine AC ?_;refine ⟨?_,g⟩;unfold CE;rw [hF];dsimp only;rw [Aq h3,BW h4,Kk,h5];rfl;have h4:¬ 0≤(Bk F 4 t.i).2:=by simp only [CK] at h4;omega
 refine AS fun _ ga _ g E=>?_;refine AC ?_;refine ⟨?_,g⟩;unfold CE;rw [hF];dsimp only;rw [Aq h3,Aq h4];rfl
theorem V0{s:List UInt8}(h:FE s=true):s≠[]:=by
 intro e;subst e;revert h;decide
theorem IK{t:Nd}{f:Nd→Bool}(h:t.b.all f=true){i:Nat}(hi:i<t.b.length):f (V t i)=true:=by
 rw [D6 hi];exact F9.1 h _ (Ei hi)
theorem mK{s:List UInt8}(h:Er Lb s=true):s≠[]:=by
 intro e;subst e;revert h;decide
theorem JS{t:Nd}(h:Hj t=true):t.c=9∧t.i=[]∧t.b.length=0:=by
 unfold Hj at h;simp only [Ap,BQ] at h;exact ⟨h.1.1,h.1.2,by simpa [Cp] using h.2⟩
theorem pM{t:Nd}(h:Cg t=true):t.c≠9:=by
 intro e;unfold Cg at h;rw [e] at h;have h:(FA 9&&CD t)=true:=h;rw [show FA 9=false by decide] at h;cases h
theorem uF{t:Nd}(h:G8 t=true):t.c≠9:=by
 intro e;unfold G8 at h;rw [e] at h;cases h
theorem SO{t:Nd}{k:Int}(h:Kc t k=true):t.c=k∧Cg t=true:=by
 unfold Kc at h;simp only [Ap,BQ] at h;exact h
theorem ND{t:Nd}(h:El t=true):t.c=10:=AV (CW.1 h).1
theorem QA{t:Nd}(h:t.c=28)(hx:Cg t=true):t.i≠[]∧t.b.length=1∧Cg (V t 0)=true:=by
 rw [← Mh] at hx;unfold Hz at hx;rw [h] at hx;have hx:((FE t.i&&Cp t 1)&&Cg (V t 0))=true:=hx;simp only [Ap,Bh,BQ] at hx;exact ⟨V0 hx.1.1,FO (hx.1.2),hx.2⟩
theorem Te{t:Nd}(h:t.c=29)(hx:Cg t=true):t.b.length=2∧Cg (V t 0)=true∧Cg (V t 1)=true:=by
 rw [← Mh] at hx;unfold Hz at hx;rw [h] at hx;have hx:((DS t&&Cp t 2)&&t.b.all Cg)=true:=hx;simp only [Ap,Bh,BQ] at hx;exact ⟨FO (hx.1.2),IK hx.2 (IY hx.1.2),IK hx.2 (IY hx.1.2)⟩
theorem XP{t:Nd}(h:t.c=30)(hx:Cg t=true):1≤t.b.length∧t.b.all Cg=true:=by
 rw [← Mh] at hx;unfold Hz at hx;rw [h] at hx;have hx:((DS t&&Ae (1≤(t.b.length:Int)))&&t.b.all Cg)=true:=hx;simp only [Ap,Bh,BQ] at hx;exact ⟨by have:=hx.1.2;omega,hx.2⟩
theorem bT{t:Nd}(h:t.c=31)(hx:Cg t=true):t.i≠[]∧t.b.length=1∧Cg (V t 0)=true:=by
 rw [← Mh] at hx;unfold Hz at hx;rw [h] at hx;have hx:(((Ae (t.i=[45]) || Ae (t.i=[33]))&&Cp t 1)&&Cg (V t 0))=true:=hx;simp only [Ap,Bh,BQ] at hx;exact ⟨by rcases hx.1.1 with e|e <;> rw [e] <;> simp,FO (hx.1.2),hx.2⟩
theorem Sd{t:Nd}(h:t.c=32)(hx:Cg t=true):t.i≠[]∧t.b.length=2∧Cg (V t 0)=true∧Cg (V t 1)=true:=by
 rw [← Mh] at hx;unfold Hz at hx;rw [h] at hx;have hx:((Er Lb t.i&&Cp t 2)&&t.b.all Cg)=true:=hx;simp only [Ap,Bh,BQ] at hx;exact ⟨mK hx.1.1,FO (hx.1.2),IK hx.2 (IY hx.1.2),IK hx.2 (IY hx.1.2)⟩
theorem YF{t:Nd}(h:t.c=33)(hx:Cg t=true):t.b.length=1∧Cg (V t 0)=true:=by
 rw [← Mh] at hx;unfold Hz at hx;rw [h] at hx;have hx:((DS t&&Cp t 1)&&Cg (V t 0))=true:=hx;simp only [Ap,Bh,BQ] at hx;exact ⟨FO (hx.1.2),hx.2⟩
theorem Y8{t:Nd}(h:t.c=35)(hx:Cg t=true):t.b.length=1∧Cg (V t 0)=true:=by
 rw [← Mh] at hx;unfold Hz at hx;rw [h] at hx;have hx:((DS t&&Cp t 1)&&Cg (V t 0))=true:=hx;simp only [Ap,Bh,BQ] at hx;exact ⟨FO (hx.1.2),hx.2⟩
theorem bD{t:Nd}(h:t.c=36)(hx:Cg t=true):t.b.length=1∧Cg (V t 0)=true:=by
 rw [← Mh] at hx;unfold Hz at hx;rw [h] at hx;have hx:((DS t&&Cp t 1)&&Cg (V t 0))=true:=hx;simp only [Ap,Bh,BQ] at hx;exact ⟨FO (hx.1.2),hx.2⟩
theorem Xk{t:Nd}(h:t.c=37)(hx:Cg t=true):t.b.length=1∧Cg (V t 0)=true:=by
 rw [← Mh] at hx;unfold Hz at hx;rw [h] at hx;have hx:((DS t&&Cp t 1)&&Cg (V t 0))=true:=hx;simp only [Ap,Bh,BQ] at hx;exact ⟨FO (hx.1.2),hx.2⟩
theorem Sy{t:Nd}(h:t.c=38)(hx:Cg t=true):t.b.length=1∧El (V t 0)=true:=by
 rw [← Mh] at hx;unfold Hz at hx;rw [h] at hx;have hx:((DS t&&Cp t 1)&&El (V t 0))=true:=hx;simp only [Ap,Bh,BQ] at hx;exact ⟨FO (hx.1.2),hx.2⟩
theorem Ze{t:Nd}(h:t.c=11)(hx:Eh t=true):t.i≠[]∧t.b.length=1∧Cg (V t 0)=true:=by
 rw [← KZ] at hx;unfold GE at hx;rw [h] at hx;have hx:((FE t.i&&Cp t 1)&&Cg (V t 0))=true:=hx;simp only [Ap,Bh,BQ] at hx;exact ⟨V0 hx.1.1,FO (hx.1.2),hx.2⟩
theorem V3{t:Nd}(h:t.c=12)(hx:Eh t=true):t.b.length=2∧Cg (V t 0)=true∧Cg (V t 1)=true:=by
 rw [← KZ] at hx;unfold GE at hx;rw [h] at hx;have hx:((DS t&&Cp t 2)&&t.b.all Cg)=true:=hx;simp only [Ap,Bh,BQ] at hx;exact ⟨FO (hx.1.2),IK hx.2 (IY hx.1.2),IK hx.2 (IY hx.1.2)⟩
theorem Ve{t:Nd}(h:t.c=16)(hx:Eh t=true):t.b.length=2∧Cg (V t 0)=true∧Cg (V t 1)=true:=by
 rw [← KZ] at hx;unfold GE at hx;rw [h] at hx;have hx:((DS t&&Cp t 2)&&t.b.all Cg)=true:=hx;simp only [Ap,Bh,BQ] at hx;exact ⟨FO (hx.1.2),IK hx.2 (IY hx.1.2),IK hx.2 (IY hx.1.2)⟩
theorem Zi{t:Nd}(h:t.c=13)(hx:Eh t=true):t.b.length=1∧Cg (V t 0)=true:=by
 rw [← KZ] at hx;unfold GE at hx;rw [h] at hx;have hx:((DS t&&Cp t 1)&&(Kc (V t 0) 30 || Kc (V t 0) 33))=true:=hx;simp only [Ap,Bh,BQ] at hx;exact ⟨FO (hx.1.2),hx.2.elim (fun h=>(SO h).2) (fun h=>(SO h).2)⟩
theorem aZ{t:Nd}(h:t.c=14)(hx:Eh t=true):t.b.length=1∧Cg (V t 0)=true:=by
 rw [← KZ] at hx;unfold GE at hx;rw [h] at hx;have hx:((DS t&&Cp t 1)&&Kc (V t 0) 30)=true:=hx;simp only [Ap,Bh,BQ] at hx;exact ⟨FO (hx.1.2),(SO hx.2).2⟩
theorem ZT{t:Nd}(h:t.c=15)(hx:Eh t=true):t.b.length=1∧Cg (V t 0)=true:=by
 rw [← KZ] at hx;unfold GE at hx;rw [h] at hx;have hx:((DS t&&Cp t 1)&&Kc (V t 0) 30)=true:=hx;simp only [Ap,Bh,BQ] at hx;exact ⟨FO (hx.1.2),(SO hx.2).2⟩
theorem eM{t:Nd}(h:t.c=17)(hx:Eh t=true):t.b.length=1∧Cg (V t 0)=true:=by
 rw [← KZ] at hx;unfold GE at hx;rw [h] at hx;have hx:((DS t&&Cp t 1)&&Cg (V t 0))=true:=hx;simp only [Ap,Bh,BQ] at hx;exact ⟨FO (hx.1.2),hx.2⟩
theorem WP{t:Nd}(h:t.c=21)(hx:Eh t=true):t.b.length=1∧Cg (V t 0)=true:=by
 rw [← KZ] at hx;unfold GE at hx;rw [h] at hx;have hx:((DS t&&Cp t 1)&&Cg (V t 0))=true:=hx;simp only [Ap,Bh,BQ] at hx;exact ⟨FO (hx.1.2),hx.2⟩
theorem XN{t:Nd}(h:t.c=20)(hx:Eh t=true):t.b.length≤1∧t.b.all Cg=true:=by
 rw [← KZ] at hx;unfold GE at hx;rw [h] at hx;have hx:((DS t&&Ae ((t.b.length:Int)≤1))&&t.b.all Cg)=true:=hx;simp only [Ap,Bh,BQ] at hx;exact ⟨by have:=hx.1.2;omega,hx.2⟩
theorem Tj{t:Nd}(h:t.c=19)(hx:Eh t=true):t.b.length=2∧(Hj (V t 0)=true∨Cg (V t 0)=true)∧El (V t 1)=true:=by
 rw [← KZ] at hx;unfold GE at hx;rw [h] at hx;have hx:(((DS t&&Cp t 2)&&(Hj (V t 0) || Cg (V t 0)))&&El (V t 1))=true:=hx;simp only [Ap,Bh,BQ] at hx;exact ⟨FO (hx.1.1.2),hx.1.2,hx.2⟩
theorem dL{t:Nd}(h:t.c=6)(hx:Eh t=true):MQ t=true:=by
 rw [← KZ] at hx;unfold GE at hx;rw [h] at hx;have hx:(MQ t)=true:=hx;exact hx
theorem Sk{t:Nd}(h:t.c=10)(hx:Eh t=true):El t=true:=by
 rw [← KZ] at hx;unfold GE at hx;rw [h] at hx;have hx:(El t)=true:=hx;exact hx
theorem SE{t:Nd}(h:t.c=18)(hx:Eh t=true):HV t=true:=by
 rw [← KZ] at hx;unfold GE at hx;rw [h] at hx;have hx:(HV t)=true:=hx;exact hx
theorem L3{t:Nd}(hx:El t=true):t.b.all Eh=true:=by
 rw [← Yh,Tk] at hx;cases h:(!Ae (t.c=10) || !DS t);rw [h] at hx;exact hx;rw [h] at hx;cases hx
theorem TA{t:Nd}(hx:HV t=true):t.b.length=3∧Cg (V t 0)=true∧El (V t 1)=true∧(El (V t 2)=true∨HV (V t 2)=true∨Hj (V t 2)=true):=by
 rw [← Ye,TQ] at hx;cases h:((!Ae (t.c=18) || !DS t) || !Cp t 3);rw [h,A0] at hx;simp only [Ap,Bh] at hx;simp only [Ik,Bool.not_eq_false'] at h;exact ⟨FO (h.2),hx.1.1,hx.1.2,hx.2.elim (fun h=>h.elim .inl fun h=>.inr (.inl h)) fun h=>.inr (.inr h)⟩;rw [h] at hx;cases hx
theorem Yi{t:Nd}(hx:MQ t=true):t.i≠[]∧t.b.length=2∧G8 (V t 0)=true∧(Hj (V t 1)=true∨Cg (V t 1)=true):=by
 rw [← Ys,TE] at hx;simp only [Ap,Bh] at hx;exact ⟨V0 hx.1.1.1.2,FO (hx.1.1.2),hx.1.2,hx.2⟩
theorem Xi{t:Nd}(h:t.c=22)(hx:Eh t=true):t.b.all JU=true:=by
 have hp:CD t=true:=(CW.1 hx).2;rw [← Zf h] at hp;exact (CW.1 hp).1
theorem WK{t:Nd}(hx:JU t=true):t.c=23∧t.b.length=2∧Mn (V t 0)=true∧El (V t 1)=true:=by
 unfold JU at hx;simp only [Ap,BQ] at hx;exact ⟨hx.1.1.1.1,FO (hx.1.1.2),hx.1.2,hx.2⟩
theorem Xa{t:Nd}(h:Mn t=true):t.c=9∨Eh t=true:=by
 rw [← VT,NG] at h;cases h1:Ct [16,9] t.c;rw [h1,A0] at h;cases h2:Ae (t.c=13);rw [h2,A0] at h;cases h3:Ae (t.c=12);rw [h3,A0] at h;cases h4:Ae (t.c=11);rw [h4] at h;cases h;rw [h4] at h;exact .inr (CW.1 h).1;rw [h3] at h;exact .inr (CW.1 h).1;rw [h2] at h;exact .inr (CW.1 h).1;rw [h1,A8,Bh] at h;exact h.elim .inr fun h=>.inl (JS h).1
theorem zL{t:Nd}(h:Eh t=true):t.c≠9:=by
 intro e;unfold Eh at h;rw [e] at h;rw [show MD 9=false by decide] at h;cases h
structure SZ where
  ex:Nat→List UInt8
  st:Nat→List UInt8
  ls:Nat→List UInt8
  cs:Nat→List UInt8
section
variable (t:Nd) (x:Nat→SZ) (l:List SZ)
end
abbrev QE:=List UInt8
def hd(s:QE):UInt8:=s.headD 0
def nd(k:Int)(s:QE)(n:Int)(ks:List Nd):Nd:=.mk k s n 0 ks AA 0 0
inductive XQ where
  | e|u|s (x:Nd)|a (l:List Nd)|b|l (l:List Nd)|t|i|c (l:List Nd)
section
variable (p:XQ→QE→Option (Nd×QE))
end
section
variable {t:Nd} {x:Nat→SZ} {l:List SZ} {k:Nat}
end
theorem zU{t:Nd}(h:Cg t=true):t.c=24∨t.c=25∨t.c=26∨t.c=27∨t.c=34∨t.c=28∨t.c=29∨t.c=30∨t.c=31∨t.c=33∨t.c=32∨t.c=35∨t.c=36∨t.c=37∨t.c=38:=by
 have:=(QZ _ _).1 (CW.1 h).1;simp only [Cl,CQ,or_false] at this;omega
theorem jT{t:Nd}(h:Eh t=true):t.c=6∨t.c=10∨t.c=11∨t.c=12∨t.c=13∨t.c=14∨t.c=15∨t.c=16∨t.c=17∨t.c=21∨t.c=18∨t.c=22∨t.c=20∨t.c=19:=by
 have:=(QZ _ _).1 (CW.1 h).1;simp only [Cl,CQ,or_false] at this;omega
theorem aE{t:Nd}(h:t.b.length=1):t.b=[V t 0]:=by
 match hk:t.b with
 | [a]=>rw [V,hk];rfl
 | []=>rw [hk] at h;cases h
 | _::_::_=>rw [hk] at h;simp at h
theorem qL{t:Nd}(h:t.b.length=2):t.b=[V t 0,V t 1]:=by
 match hk:t.b with
 | [a,b]=>rw [V,V,hk];rfl
 | []=>rw [hk] at h;cases h
 | [_]=>rw [hk] at h;cases h
 | _::_::_::_=>rw [hk] at h;simp at h
theorem lD{t:Nd}(h:t.b.length=3):t.b=[V t 0,V t 1,V t 2]:=by
 match hk:t.b with
 | [a,b,c]=>rw [V,V,V,hk];rfl
 | []=>rw [hk] at h;cases h
 | [_]=>rw [hk] at h;cases h
 | [_,_]=>rw [hk] at h;cases h
 | _::_::_::_::_=>rw [hk] at h;simp at h
theorem P6{t:Nd}(h:t.b.length=1):count t=1+count (V t 0):=by rw [Iy,aE h];simp
theorem Oq{t:Nd}(h:t.b.length=2):count t=1+count (V t 0)+count (V t 1):=by rw [Iy,qL h];simp;omega
theorem Rs{t:Nd}(h:t.b.length=3):count t=1+count (V t 0)+count (V t 1)+count (V t 2):=by rw [Iy,lD h];simp;omega
section
variable {p:XQ→QE→Option (Nd×QE)}
end
def EP(lo:Nat)(X:List Nat)(w:Ad)(ks:List Nd)(v:Bd):Prop:=Bo w (fun k=>(lo≤k∧k∉X)∧G6 w k) ks v
section
variable {lo lo' n0 j b:Nat} {X:List Nat} {w w':Ad} {ks:List Nd} {v:Bd}
theorem FN.x(h:FN lo w ks v)(hX:∀ j∈X,j<lo):EP lo X w ks v:=Bo.mono h fun k hk _=>⟨⟨hk.1,fun hm=>by have:=hX k hm;omega⟩,hk.2⟩
theorem EP.Y(h:EP lo X w ks v)(hl:lo'≤lo):FN lo' w ks v:=Bo.mono h fun k hk _=>⟨Dg hl hk.1.1,hk.2⟩
theorem EP.a(h:EP lo X w ks v)(g:G w w'):EP lo X w' ks v:=He h (fun k hk _=>⟨hk.1,hk.2.a g⟩) fun k hk aa=>g.block aa
theorem EP.gt(h:EP lo X w ks v)(g:AP DQ n0 w w'):EP lo X w' ks v:=He h (fun k hk _=>⟨hk.1,hk.2.gt g rfl⟩) fun k hk aa=>g.block k aa (.inr (hk.2.av rfl))
theorem EP.A(h:EP lo X w ks v)(hg:w.grownBy w' (some j))(hj:j<lo∨j∈X):EP lo X w' ks v:=by
 have ab:∀ k,(lo≤k∧k∉X)→k≠j:=fun k hk e=>by
  subst e;rcases hj with hj|hj;omega;exact hk.2 hj
 have hs:∀ k,(lo≤k∧k∉X)→k<w.heap.size→w'.heap[k]? = w.heap[k]?:=fun k hk aa=>hg.block k aa fun e=>by injection e with e;exact ab k hk e
 exact He h (fun k hk aa=>⟨hk.1,hk.2.ac (hs k hk.1 aa)⟩) fun k hk aa=>hs k hk.1 aa
theorem EP.new{e:Aw}{l:List Bd}(h:EP lo X w ks v)(N:Ks w w' b e l):EP lo (b::X) w' ks v:=by
 have:=N.j
 exact He h (fun k hk aa=>⟨⟨hk.1.1,fun hm=>by
  rcases Cl.1 hm with e|e;omega;exact hk.1.2 e⟩,hk.2.a N.g⟩) fun k hk aa=>N.g.block aa
theorem EP.an{e:Aw}{l:List Bd}(h:EP lo X w ks v)(hg:w.grownBy w' (some j))(hB:Av w j e l)(he:BM e 26=false):EP lo X w' ks v:=by
 have ab:∀ k,G6 w k→k≠j:=fun k ⟨cs,fr,hk⟩ q=>by
  subst q;unfold Av at hB;rw [hB] at hk;injection hk with hk;injection hk with _ hk;subst hk;simp at he
 exact He h (fun k hk aa=>⟨hk.1,hk.2.ac (hg.block k aa fun e=>by injection e with e;exact ab k hk.2 e)⟩) fun k hk aa=>hg.block k aa fun e=>by injection e with e;exact ab k hk.2 e
end
theorem Dl.af{Y:List Nat}{lo:Nat}{w w':Ad}{ks:List Nd}{s:Bd}{j:Nat}{e:Aw}{l:List Bd}(h:Dl Y lo w ks s)(hg:w.grownBy w' (some j))(hB:Av w j e l)(he:BM e 26=false):Dl Y lo w' ks s:=by
 have ab:∀ k,G6 w k→k≠j:=fun k ⟨cs,fr,hk⟩ q=>by
  subst q;unfold Av at hB;rw [hB] at hk;injection hk with hk;injection hk with _ hk;subst hk;simp at he
 have ac:=h.nd;exact QD h (fun k hk aa=>⟨hk.1,hk.2.ac (hg.block k aa fun e=>by injection e with e;exact ab k hk.2 e)⟩) (fun k hk aa=>hg.block k aa fun e=>by injection e with e;exact ab k hk.2 e) fun xs h'=>Df h' hg (.inr fun e=>ab j (ac j e) rfl)
theorem Fq{lo m0:Nat}{X Y:List Nat}{w:Ad}{t:Nd}{v s:Bd}(h:EP lo X w t.b v)(hm:m0≤lo)(hY:∀ j∈Y,j∈X∨j<lo)(hs:∀ j,s.ownBlock=some j→j∈X∨j<lo):D8 w (fun k=>(IQ m0 Y k∧G6 w k)∧some k≠s.ownBlock) [t] (Cs t v):=by
 refine Dh (Bo.mono h fun k hk _=>⟨⟨⟨Dg hm hk.1.1,fun hy=>?_⟩,hk.2⟩,fun e=>?_⟩);rcases hY k hy with q|q;exact hk.1.2 q;have:=hk.1.1;omega;rcases hs k e.symm with q|q;exact hk.1.2 q;have:=hk.1.1;omega
@[reducible] def Q7(n0:Nat):H0:=⟨fun w w'=>AP DQ n0 w w',AP.refl DQ n0,fun h k=>AP.trans h k⟩
theorem Gk{w:Ad}{D:Nat→Prop}{t:Nd}{p:Option Addr}{c:Nat}(hk:Bo w D t.b (.slice p t.b.length c)){i:Nat}(h:i<t.b.length):D (E5 p):=by
 obtain ⟨p',c',hpe,_,aa⟩:=hk;injection hpe with hpe _ ab;subst hpe ab;obtain ⟨b2,o2,rfl,hD,_⟩:=aa O;exact hD
theorem BR{t:Nd}{lo:Nat}{r v:Bd}{w:Ad}(e:r=BV t v)(h:FN lo w t.b v):IM t lo r w:=e▸Wq h
def OL(M:Nat)(F:Nd)(fn:FuncId)(t:Nd)(X:An→Nd×An):Prop:=∀ {n0 b:Nat} {S:An} {w:Ad} {v:Bd} {N:Nat},D4 F n0 b S w→Bo w (fun k=>k<n0) t.b v→EQ S N→N+count t≤M→
 Bx Aj fn #[.pointer (some ⟨b,0,none⟩),BV t v] w fun r w'=>IM (X S).1 w.heap.size r w'∧D4 F n0 b (X S).2 w'∧AP DQ n0 w w'
abbrev Dy:=OL 1000000
theorem Dy.to{M:Nat}{F:Nd}{fn:FuncId}{t:Nd}{X:An→Nd×An}(C':OL M F fn t X){n0 b:Nat}{S:An}{w:Ad}{v:Bd}{N m0:Nat}(Z:List Nat)(h:D4 F n0 b S w)(hk:Bo w (fun k=>k<n0) t.b v)(hb:EQ S N)(hc:N+count t≤M)(hZ:∀ j∈Z,j<w.heap.size)(hm:m0≤w.heap.size) :
 Bx Aj fn #[.pointer (some ⟨b,0,none⟩),BV t v] w fun r w'=>(∃ p c,r=BV (X S).1 (.slice p (X S).1.b.length c)∧m0≤w.heap.size∧EP w.heap.size Z w' (X S).1.b (.slice p (X S).1.b.length c))∧D4 F n0 b (X S).2 w'∧AP DQ n0 w w' :=
 (C' h hk hb hc).mono fun r w' hr=>by
 obtain ⟨⟨p,c,e,k⟩,h1,h2⟩:=hr;exact ⟨⟨p,c,e,hm,FN.x k hZ⟩,h1,h2⟩
def Nj(F:Nd)(t:Nd):Prop:=∀ {n0 b:Nat} {S:An} {w:Ad} {v:Bd} {N:Nat},D4 F n0 b S w→Bo w (fun k=>k<n0) t.b v→EQ S N→N+count t≤1000000→
 Bx Aj 106 #[.pointer (some ⟨b,0,none⟩),BV t v] w fun r w'=>(∃ u,r = .tuple #[u,.bool ((Ah F t).w S).1.2]∧IM ((Ah F t).w S).1.1 w.heap.size u w')∧D4 F n0 b ((Ah F t).w S).2 w'∧AP DQ n0 w w'
def Qn(F:Nd)(t:Nd):Prop:=∀ {n0 b:Nat} {S:An} {w:Ad} {v:Bd} {N:Nat},D4 F n0 b S w→Bo w (fun k=>k<n0) t.b v→EQ S N→N+count t≤1000000→
 Bx Aj 140 #[.pointer (some ⟨b,0,none⟩),BV t v] w fun r w'=>(∃ u,r = .tuple #[u,.bool ((Ah F t).rcv S).2]∧IM ((Ah F t).rcv S).1 w.heap.size u w')∧G w w'
def Qs(w:Ad)(l:List Bu)(v:Bd):Prop:=∃ p c,v = .slice p l.length c∧(0<l.length→∃ b o cs fr,p=some ⟨b,o,none⟩∧w.heap[b]? = some (.cells cs 24 fr)∧Cv w b o (l.flatMap Ea))
def PD(F:Nd)(t:Nd):Prop:=∀ {n0 b:Nat} {S:An} {w:Ad} {v:Bd} {N:Nat},D4 F n0 b S w→Bo w (fun k=>k<n0) t.b v→EQ S N→N+count t≤1000000→
 Bx Aj 126 #[.pointer (some ⟨b,0,none⟩),BV t v] w fun r w'=>(∃ u l,r = .tuple #[u,l,D3 ((Ah F t).s S).1.2.2]∧IM ((Ah F t).s S).1.1 w.heap.size u w'∧Qs w' ((Ah F t).s S).1.2.1 l)∧D4 F n0 b ((Ah F t).s S).2 w'∧AP DQ n0 w w'
structure KD (F t:Nd):Prop where
  ex:Cg t=true→Dy F 86 t (Ah F t).ex
  st:Eh t=true→Dy F 64 t (Ah F t).st
  p:El t=true→Dy F 82 t (Ah F t).p
  u:El t=true→OL 1000001 F 44 t (Ah F t).u
  ifs:HV t=true→Dy F 83 t (Ah F t).ifs
  w:Cg t=true→t.c=28→Nj F t
  rcv:Cg t=true→Qn F t
  s:Cg t=true→PD F t
theorem WT(F k:Nd)(S:An):BZ (count k) S (GJ k (Ah F k) S).2:=by
 unfold GJ;cases Ae (k.c=9);exact ((EE F k).ex S).C _ _ _;exact (BZ.refl S).mono (Cr _)
theorem Yt{F t:Nd}(hx:t.c≠9→Dy F 86 t (Ah F t).ex):Dy F 88 t (GJ t (Ah F t)):=by
 intro n0 b S w v N h ab hb ad;obtain ⟨p,c,rfl,_⟩:=id ab;have af:=h.lt;have g:=AP.refl DQ n0 w;refine Cj 20 [0,1] Tryz.func88 ?_;refine CN fun b3 _ ga _ g E=>?_;have h:=Ar h;have ab:=Ar ab;refine A1 fun b4 _ ga _ g E=>?_;have h:=Ar h;have ab:=Ar ab;refine Az (fun h1=>?_) fun h1=>?_;have h1:t.c=9:=AV h1;refine R ?_;refine AK (H9 t _ _ _) ?_;rintro _ _ ⟨rfl,ga⟩;refine AY fun g E=>?_;have h:=AO h;refine AR fun _ ga Ca g E h=>?_;refine AC ?_;have e:GJ t (Ah F t) S=(DN t,S):=by unfold GJ;rw [BW h1];rfl
 rw [e];exact ⟨BR (t:=DN t) rfl (Iz _ _),h,g⟩;have h1:t.c≠9:=CM h1;refine R ?_;refine AK (Dy.to (hx h1) [b3,b4] h ab hb ad (E.O Bq) g.size) ?_;rintro _ _ ⟨⟨ae,ag,rfl,ac,aa⟩,h,ga⟩;refine AY fun g E=>?_;refine A1 fun _ _ ga _ g E=>?_;have aa:=Bp aa;have h:=Ar h;refine AR fun _ ga Ca g E h=>?_;have aa:=AM aa;refine R ?_;refine AK (LQ ((Ah F t).ex S).1 _ _ 2 t.m h) ?_;rintro _ _ ⟨rfl,h,ga⟩;refine AY fun g E=>?_;have aa:=DP aa;refine AR fun _ ga Ca g E h=>?_;have aa:=AM aa;refine AC ?_;have e:GJ t (Ah F t) S=(((Ah F t).ex S).1,DG ((Ah F t).ex S).1 2 t.m ((Ah F t).ex S).2):=by unfold GJ;rw [Aq h1];rfl
 rw [e];exact ⟨BR rfl (aa.Y ac),h,g⟩
theorem yW{F t:Nd}(hx:OL 1000001 F 44 t (Ah F t).u):Dy F 82 t (Ah F t).p:=by
 intro n0 b S w v N h ab hb ao;have e:(Ah F t).p S=(((Ah F t).u (Ee S)).1,IP ((Ah F t).u (Ee S)).2):=by rw [GL];rfl
 rw [e];obtain ⟨p,c,rfl,_⟩:=id ab;have am:=h.lt;have an:=hb.sc;have ct:=JJ t;have ac:EQ (Ee S) (N+1):=⟨by have:=hb.vl;show S.q.length≤_;omega,by have:=hb.nl;show S.next.length≤_;omega,fun k hk=>by have:=hb.nx k hk;omega,hb.lv,by show S.k+1≤_;omega,fun v hv=>by have:=hb.vs v hv;omega⟩;have hs:=(EE F t).u (Ee S);have ad:=hs.bd _ ac;have ae:1≤((Ah F t).u (Ee S)).2.k:=by rw [hs.k];exact Nat.le_add_left 1 _
 have ak:=ad.sc;have ai:=ad.vl;have af:((Ah F t).u (Ee S)).2.k≤100000000:=by omega
 have ag:((Ah F t).u (Ee S)).2.q.length≤100000000:=by omega
 have g:=AP.refl DQ n0 w;refine Cj 14 [0,1] Tryz.func82 ?_;refine CN fun b3 _ ga _ g E=>?_;have h:=Ar h;have ab:=Ar ab;refine A1 fun b4 _ ga _ g E=>?_;have h:=Ar h;have ab:=Ar ab;refine R ?_;refine AK (eQ h O) ?_;rintro _ _ ⟨rfl,h,ga⟩;refine AY fun g E=>?_;have ab:=F0 ab;refine R ?_;refine AK (Dy.to (hx) [b3,b4] h ab ac O (E.O Bq) g.size) ?_;rintro _ _ ⟨⟨al,aj,rfl,ah,aa⟩,h,ga⟩;refine AY fun g E=>?_;refine A1 fun _ _ ga _ g E=>?_;have aa:=Bp aa;have h:=Ar h;refine AR fun _ ga Ca g E h=>?_;have aa:=AM aa;refine R ?_;refine AK (Th h af ae ag) ?_;rintro _ _ ⟨rfl,h,ga⟩;refine AY fun g E=>?_;have aa:=DP aa;refine AR fun _ ga Ca g E h=>?_;have aa:=AM aa;refine AC ?_;exact ⟨BR rfl (aa.Y ah),h,g⟩
theorem iY{F t:Nd}(H':∀ i,i<t.b.length→KD F (V t i))(hx:HV t=true):Dy F 83 t (Ah F t).ifs:=by
 intro n0 b S w v N h ac hb bh;obtain ⟨hl,he,an,al⟩:=TA hx
 have e:(Ah F t).ifs S=Jy t (fun i=>Ah F (V t i)) S:=by
  rw [GL];show Jy t (Ax F t) S=_;unfold Jy;rw [Dz (show 0<t.b.length by omega),Dz (show 1<t.b.length by omega),Dz (show 2<t.b.length by omega)]
 rw [e];obtain ⟨p,c,rfl,_⟩:=id ac;have bf:=h.lt;have a7:=Rs hl;have c0:=JJ (V t 0);have C0:Dy F 88 (V t 0) (GJ (V t 0) (Ah F (V t 0))):=Yt (F:=F) (t:=V t 0) (fun _=>(H' 0 O).ex he);have Q1:=H' 1 O;have Q2:=H' 2 O;have ai:=(WT F (V t 0) S).bd _ hb;have ah:=((EE F (V t 1)).p (GJ (V t 0) (Ah F (V t 0)) S).2).bd _ ai;have g:=AP.refl DQ n0 w;refine Cj 55 [0,1] Tryz.func83 ?_;refine CN fun b3 _ ga _ g E=>?_;have h:=Ar h;have ac:=Ar ac;refine A1 fun b4 _ ga _ g E=>?_;have h:=Ar h;have ac:=Ar ac;refine R ?_;refine AK (H9 t _ _ _) ?_;rintro _ _ ⟨rfl,ga⟩;refine AY fun g E=>?_;have h:=AO h;have ac:=AO ac;refine A1 fun b5 _ ga _ g E=>?_;have h:=Ar h;have ac:=Ar ac;refine AR fun _ ga Ca g E h=>?_;have ac:=Cq ac;obtain ⟨hpe,ay,au,hcell,ad⟩:=Ba ac (i:=0) O;refine R ?_;refine AK (Dy.to (C0) [b3,b4,b5] h ad hb O (E.O Bq) g.size) ?_;rintro _ _ ⟨⟨ba,a8,rfl,aj,aa⟩,h,ga⟩;refine AY fun g E=>?_;have ac:=F0 ac;refine A1 fun b6 _ ga _ g E=>?_;have aa:=Bp aa;have h:=Ar h;have ac:=Ar ac;refine AR fun _ ga Ca g E h=>?_;have ac:=Cq ac;have aa:=AM aa;obtain ⟨hpe,av,a3,hcell,ad⟩:=Ba ac (i:=1) O;refine R ?_;refine AK (Dy.to (Q1.p an) [b3,b4,b5,b6] h ad ai O (E.O Bq) g.size) ?_;rintro _ _ ⟨⟨a6,a5,rfl,ak,ab⟩,h,ga⟩;refine AY fun g E=>?_;have ac:=F0 ac;have aa:=DP aa;refine A1 fun b7 _ ga _ g E=>?_;have aa:=Bp aa;have ab:=Bp ab;have h:=Ar h;have ac:=Ar ac;refine AR fun _ ga Ca g E h=>?_;have ac:=Cq ac;have aa:=AM aa;have ab:=AM ab
 obtain ⟨hpe,aw,ar,hcell,ad⟩:=Ba ac (i:=2) O;refine R ?_;refine AK (H9 (V t 2) _ _ _) ?_;rintro _ _ ⟨rfl,ga⟩;refine AY fun g E=>?_;have h:=AO h;have ac:=AO ac;have aa:=AO aa;have ab:=AO ab;refine A1 fun b8 _ ga _ g E=>?_;have aa:=Bp aa;have ab:=Bp ab;have h:=Ar h;have ac:=Ar ac;refine AR fun _ ga Ca g E h=>?_;have ac:=Cq ac;have aa:=AM aa;have ab:=AM ab;obtain ⟨hpe,az,a4,hcell,ad⟩:=Ba ac (i:=2) O;refine Az (fun h1=>?_) fun h1=>?_;have h1:(V t 2).c=10:=AV h1;have ao:El (V t 2)=true:=al.elim id fun h=>h.elim (fun h=>absurd (AV (CW.1 h).1) O) fun h=>absurd (JS h).1 O;obtain ⟨hpe,a2,a0,hcell,ad⟩:=Ba ac (i:=2) O;refine R ?_;refine AK (Dy.to (Q2.p ao) [b3,b4,b5,b6,b7,b8] h ad ah O (E.O Bq) g.size) ?_;rintro _ _ ⟨⟨be,bc,rfl,aq,af⟩,h,ga⟩;refine AY fun g E=>?_;have aa:=DP aa;have ab:=DP ab;refine AR fun _ ga Ca g E h=>?_;have aa:=AM aa;have ab:=AM ab;have af:=AM af;refine Ch fun _ _ ga ag g E=>?_;have aa:=Bp aa;have ab:=Bp ab;have af:=Bp af;have h:=Ar h;refine AR fun _ ga Ca g E h=>?_;have aa:=AM aa;have ab:=AM ab;have af:=AM af;refine AR fun _ ga Ca g E h=>?_;have aa:=AM aa;have ab:=AM ab;have af:=AM af;refine AC ?_;unfold Jy;dsimp only;rw [BW h1];exact ⟨BR (t:=AJ t [_,_,_] AA) rfl (D9 (ks:=[_,_,_]) ⟨ag,DK E.E⟩ E.E.row (F2 (aa.Y aj) (F2 (ab.Y ak) (Dh (af.Y aq)))) (AN _)),h,g⟩;have h1:(V t 2).c≠10:=CM h1;refine Az (fun h2=>?_) fun h2=>?_
 have h2:(V t 2).c=18:=AV h2;have ap:HV (V t 2)=true:=al.elim (fun h=>absurd (ND h) O) fun h=>h.elim id fun h=>absurd (JS h).1 O;obtain ⟨hpe,a1,ax,hcell,ad⟩:=Ba ac (i:=2) O;refine R ?_;refine AK (Dy.to (Q2.ifs ap) [b3,b4,b5,b6,b7,b8] h ad ah O (E.O Bq) g.size) ?_;rintro _ _ ⟨⟨a9,bg,rfl,am,ae⟩,h,ga⟩;refine AY fun g E=>?_;have aa:=DP aa;have ab:=DP ab;refine AR fun _ ga Ca g E h=>?_;have aa:=AM aa;have ab:=AM ab;have ae:=AM ae;refine Ch fun _ _ ga ag g E=>?_;have aa:=Bp aa;have ab:=Bp ab;have ae:=Bp ae;have h:=Ar h;refine AR fun _ ga Ca g E h=>?_;have aa:=AM aa;have ab:=AM ab;have ae:=AM ae;refine AR fun _ ga Ca g E h=>?_;have aa:=AM aa;have ab:=AM ab;have ae:=AM ae;refine AC ?_;unfold Jy;dsimp only;rw [Aq h1,BW h2];exact ⟨BR (t:=AJ t [_,_,_] AA) rfl (D9 (ks:=[_,_,_]) ⟨ag,DK E.E⟩ E.E.row (F2 (aa.Y aj) (F2 (ab.Y ak) (Dh (ae.Y am)))) (AN _)),h,g⟩;have h2:(V t 2).c≠18:=CM h2;refine Ch fun _ _ ga ag g E=>?_;have aa:=Bp aa;have ab:=Bp ab;have h:=Ar h;refine AR fun _ ga Ca g E h=>?_;have aa:=AM aa;have ab:=AM ab;refine AR fun _ ga Ca g E h=>?_;have aa:=AM aa;have ab:=AM ab;refine AC ?_;unfold Jy;dsimp only;rw [Aq h1,Aq h2];exact ⟨BR (t:=AJ t [_,_,DN (V t 2)] AA) rfl (D9 (ks:=[_,_,DN (V t 2)]) ⟨ag,DK E.E⟩ E.E.row (F2 (aa.Y aj) (F2 (ab.Y ak) (Dh (Iz _ _)))) (AN _)),h,g⟩
def MI(v:DD):List Bd:=[Co v.name,.int .i64 v.typ.c,Co v.typ.name,.int .i64 v.num,.int .i64 v.n]
theorem yN(v:DD):(MI v).length=5:=rfl
structure Gw (tv:Aw) (n0:Nat) (w:Ad) (vs:List Bd) (sc:List (List DD)):Prop where
  len:vs.length=sc.length
  row:∀ (i:Nat) (v:Bd) (l:List DD),vs[i]? = some v→sc[i]? = some l→w.ownsRow n0 tv 5 v l.length (l.flatMap MI)
  dis:∀ (i j:Nat) (v u:Bd),vs[i]? = some v→vs[j]? = some u→i≠j→v.ownBlock=none∨v.ownBlock≠u.ownBlock
section
variable {tv:Aw} {n0:Nat} {w w':Ad} {vs:List Bd} {sc:List (List DD)}
theorem Gw.at(h:Gw tv n0 w vs sc){i:Nat}(hi:i<sc.length):∃ v,vs[i]? = some v∧w.ownsRow n0 tv 5 v sc[i].length (sc[i].flatMap MI):=by
 have hv:i<vs.length:=by rw [h.len];exact hi
 exact ⟨vs[i],Dv hv,h.row i _ _ (Dv hv) (Dv hi)⟩
theorem Gw.ex(h:Gw tv n0 w vs sc){i:Nat}{v:Bd}(hv:vs[i]? = some v):∃ l,sc[i]? = some l∧w.ownsRow n0 tv 5 v l.length (l.flatMap MI):=by
 have hi:i<sc.length:=by rw [← h.len];exact (Ka.1 hv).1
 exact ⟨sc[i],Dv hi,h.row i _ _ hv (Dv hi)⟩
theorem Gw.ac(h:Gw tv n0 w vs sc)(hs:∀ (i:Nat) (v:Bd),vs[i]? = some v→∀ k,v.ownBlock=some k→w'.heap[k]? = w.heap[k]?):Gw tv n0 w' vs sc :=
 ⟨h.len,fun i v l hv hl=>Pq (h.row i v l hv hl) (hs i v hv),h.dis⟩
theorem Gw.lt(h:Gw tv n0 w vs sc){i:Nat}{v:Bd}(hv:vs[i]? = some v):∀ k,v.ownBlock=some k→n0≤k∧k<w.heap.size:=by
 obtain ⟨l,_,hr⟩:=h.ex hv;exact hr.lt
theorem Gw.a(h:Gw tv n0 w vs sc)(g:G w w'):Gw tv n0 w' vs sc:=h.ac fun i v hv k hk=>g.block (h.lt hv k hk).2
theorem Gw.A(h:Gw tv n0 w vs sc){row:Option Nat}(hg:w.grownBy w' row)(hr:∀ k,row=some k→¬ LL (fun e _=>BM e tv) w k):Gw tv n0 w' vs sc:=h.ac fun i v hv k hk=>by
 obtain ⟨l,_,ho⟩:=h.ex hv;refine hg.block k (h.lt hv k hk).2 fun e=>hr k e.symm ?_;rcases ho.2 with ⟨h1,_⟩|⟨g,aa,ab,h1,h2,h3,_⟩;rw [h1] at hk;cases hk;rw [h1] at hk;have:g=k:=by injection hk
 subst this;exact ⟨_,_,_,h3,Nat.beq_refl _⟩
theorem Gw.push(h:Gw tv n0 w vs sc):Gw tv n0 w (vs++[.slice none 0 0]) (sc++[[]]):=by
 refine ⟨by rw [DF,DF,h.len];rfl,fun i v l hv hl=>?_,fun i j v u hv hu aa=>?_⟩;rcases Nat.lt_trichotomy i vs.length with q|q|q;rw [HJ q] at hv;rw [HJ (by rw [← h.len];exact q)] at hl;exact h.row i v l hv hl;subst q;rw [HA (AN _),HN] at hv;rw [h.len,HA (AN _),HN] at hl;injection hv with hv;injection hl with hl;subst hv hl;exact JX _ _ _ _;rw [J9 (by rw [DF];show vs.length+1≤i;omega)] at hv;cases hv
 have one:∀ (i:Nat) (v:Bd),(vs++[BH none 0 0])[i]? = some v→v = .slice none 0 0∨(i<vs.length∧vs[i]? = some v):=fun i v hv=>by
  rcases Nat.lt_trichotomy i vs.length with q|q|q;rw [HJ q] at hv;exact .inr ⟨q,hv⟩;subst q;rw [HA (AN _),HN] at hv;injection hv with hv;exact .inl hv.symm;rw [J9 (by rw [DF];show vs.length+1≤i;omega)] at hv;cases hv
 rcases one i v hv with q|⟨_,q⟩;subst q;exact .inl rfl;rcases one j u hu with q'|⟨_,q'⟩;subst q'
 cases hb:v.ownBlock with
 | none=>exact .inl rfl
 | some k=>exact .inr (fun e=>by cases e)
 exact h.dis i j v u q q' aa
theorem Gw.bq(h:Gw tv n0 w vs sc)(n:Nat):Gw tv n0 w (vs.take n) (sc.take n):=by
 have t:∀ {α:Type} (l:List α) (i:Nat) (a:α),(l.take n)[i]? = some a→l[i]? = some a:=fun l i a hl=>by
  rw [I4] at hl;split at hl;exact hl;cases hl
 exact ⟨by rw [DV,DV,h.len],fun i v l hv hl=>h.row i v l (t _ _ _ hv) (t _ _ _ hl),fun i j v u hv hu aa=>h.dis i j v u (t _ _ _ hv) (t _ _ _ hu) aa⟩
theorem Gw.set(h:Gw tv n0 w vs sc){i:Nat}{v v':Bd}{l':List DD}(hv:vs[i]? = some v)(hg:w.grownBy w' v.ownBlock)(ho:w'.ownsRow n0 tv 5 v' l'.length (l'.flatMap MI))
 (ab:∀ k,v'.ownBlock=some k→v.ownBlock=some k∨w.heap.size≤k):Gw tv n0 w' (vs.set i v') (sc.set i l'):=by
 have hi:i<vs.length:=(Ka.1 hv).1
 have ot:∀ (j:Nat) (u:Bd),j≠i→vs[j]? = some u→v'.ownBlock=none∨v'.ownBlock≠u.ownBlock:=fun j u hj hu=>by
  cases hb:v'.ownBlock with
  | none=>exact .inl rfl
  | some k =>
   refine .inr fun e=>?_;rcases ab k hb with q|q;rcases h.dis i j v u hv hu (Ne.symm hj) with z|z;rw [z] at q;cases q;exact z (q.trans e);have:=(h.lt hu k e.symm).2;omega
 refine ⟨by rw [Fy,Fy,h.len],fun j u l hu hl=>?_,fun j k u z hu hz aa=>?_⟩;by_cases hj:i=j;subst hj;rw [FP hi] at hu;rw [FP (by rw [← h.len];exact hi)] at hl;injection hu with hu;injection hl with hl;subst hu hl;exact ho;rw [FS hj] at hu hl;refine Pq (h.row j u l hu hl) fun k hk=>hg.block k (h.lt hu k hk).2 fun e=>?_;rcases h.dis j i u v hu hv (Ne.symm hj) with q|q;rw [q] at hk;cases hk;exact q (hk.trans e);by_cases hj:i=j;subst hj;rw [FP hi] at hu;rw [FS aa] at hz;injection hu with hu;subst hu;exact ot k z (Ne.symm aa) hz;rw [FS hj] at hu;by_cases hk:i=k;subst hk;rw [FP hi] at hz;injection hz with hz;subst hz;rcases ot j u (Ne.symm hj) hu with q|q
 cases hb:u.ownBlock with
 | none=>exact .inl rfl
 | some b=>exact .inr (fun e=>by rw [q] at e;cases e)
 exact .inr (Ne.symm q);rw [FS hk] at hz;exact h.dis j k u z hu hz aa
end
set_option maxHeartbeats 1000000
def Fz(F t:Nd)(i:Nat):GT:=Ah F (V t i)
def H7(a:Nd):Bool:=((Ae (a.c=27) && !Ae (a.ref=3)) || Ae (a.c=28)) || Ae (a.c=29)
theorem sL{F t:Nd}(H':∀ i,i<t.b.length→KD F (V t i))(am:t.c=12)(hx:Eh t=true):Dy F 84 t (KH t (Fz F t)):=by
 intro n0 b S w v N h ac hb a2;obtain ⟨hl,he,ak⟩:=V3 am hx;obtain ⟨p,c,rfl,_⟩:=id ac;have a1:=h.lt;have a0:=Oq hl;have Q0:=H' 0 O;have Q1:=H' 1 O;have ai:=((((EE F (V t 0)).ex S).C (H7 ((Ah F (V t 0)).ex S).1) (V t 0).m 7)).bd _ hb;have g:=AP.refl DQ n0 w;refine Cj 68 [0,1] Tryz.func84 ?_;refine CN fun b3 _ ga _ g E=>?_;have h:=Ar h;have ac:=Ar ac;refine A1 fun b4 _ ga _ g E=>?_;have h:=Ar h;have ac:=Ar ac;refine R ?_;refine AK (H9 t _ _ _) ?_;rintro _ _ ⟨rfl,ga⟩;refine AY fun g E=>?_;have h:=AO h;have ac:=AO ac;refine A1 fun b5 _ ga _ g E=>?_;have h:=Ar h;have ac:=Ar ac;refine AR fun _ ga Ca g E h=>?_;have ac:=Cq ac;obtain ⟨hpe,au,av,hcell,ae⟩:=Ba ac (i:=0) O;refine R ?_;refine AK (Dy.to (Q0.ex he) [b3,b4,b5] h ae hb O (E.O Bq) g.size) ?_;rintro _ _ ⟨⟨az,ay,rfl,ah,aa⟩,h,ga⟩;refine AY fun g E=>?_;have ac:=F0 ac;refine A1 fun b6 _ ga _ g E=>?_;have aa:=Bp aa;have h:=Ar h;have ac:=Ar ac;refine AR fun _ ga Ca g E h=>?_;have ac:=Cq ac;have aa:=AM aa;refine Az (fun h1=>?_) fun h1=>?_
 have hq:H7 ((Ah F (V t 0)).ex S).1=false:=by
  unfold H7;revert h1;cases Ae (((Ah F (V t 0)).ex S).1.c=27) <;> cases Ae (((Ah F (V t 0)).ex S).1.ref=3) <;> cases Ae (((Ah F (V t 0)).ex S).1.c=28) <;> cases Ae (((Ah F (V t 0)).ex S).1.c=29) <;> decide
 obtain ⟨hpe,aw,ax,hcell,ae⟩:=Ba ac (i:=0) O;refine R ?_;refine AK (F5 (V t 0).m 7 h) ?_;rintro _ _ ⟨rfl,h,ga⟩;refine AY fun g E=>?_;have ac:=F0 ac;have aa:=DP aa;have hT:DI (V t 0).m 7 ((Ah F (V t 0)).ex S).2=(AH (H7 ((Ah F (V t 0)).ex S).1) (V t 0).m 7 ((Ah F (V t 0)).ex S).2):=by rw [hq];rfl
 rw [hT] at h;obtain ⟨hpe,ao,an,hcell,ae⟩:=Ba ac (i:=1) O;refine R ?_;refine AK (Dy.to (Q1.ex ak) [b3,b4,b5,b6] h ae ai O (E.O Bq) g.size) ?_;rintro _ _ ⟨⟨ap,aq,rfl,ag,ab⟩,h,ga⟩;refine AY fun g E=>?_;have ac:=F0 ac;have aa:=DP aa;refine A1 fun _ _ ga l8 g E=>?_;have aa:=Bp aa;have ab:=Bp ab;have h:=Ar h;have ac:=Ar ac;refine AR fun _ ga Ca g E h=>?_;have ac:=Cq ac;have aa:=AM aa;have ab:=AM ab;refine R ?_;refine DA (O0 _ _ _) (fun ar ad=>?_);have g:=Cc g ad;replace E:=E.a ad;have h:=h.a (ad);have ac:=ac.a (ad);have aa:=aa.a (ad);have ab:=ab.a (ad);refine Az (fun h2=>?_) fun h2=>?_;have hr:EL ((Ah F (V t 0)).ex S).1.ty ((Ah F (V t 1)).ex (AH (H7 ((Ah F (V t 0)).ex S).1) (V t 0).m 7 ((Ah F (V t 0)).ex S).2)).1.ty=false:=by simpa using h2
 obtain ⟨hpe,al,aj,hcell,ae⟩:=Ba ac (i:=1) O;refine R ?_;refine AK (F5 (V t 1).m 7 h) ?_;rintro _ _ ⟨rfl,h,ga⟩;refine AY fun g E=>?_;have aa:=DP aa;have ab:=DP ab;refine Ch fun _ _ ga af g E=>?_;have aa:=Bp aa;have ab:=Bp ab;have h:=Ar h;refine AR fun _ ga Ca g E h=>?_;have aa:=AM aa;have ab:=AM ab;refine AR fun _ ga Ca g E h=>?_;have aa:=AM aa;have ab:=AM ab;refine AC ?_;have e:KH t (Fz F t) S=(AJ t [((Ah F (V t 0)).ex S).1,((Ah F (V t 1)).ex (AH (H7 ((Ah F (V t 0)).ex S).1) (V t 0).m 7 ((Ah F (V t 0)).ex S).2)).1] AA,AH (EL ((Ah F (V t 0)).ex S).1.ty ((Ah F (V t 1)).ex (AH (H7 ((Ah F (V t 0)).ex S).1) (V t 0).m 7 ((Ah F (V t 0)).ex S).2)).1.ty) (V t 1).m 7 ((Ah F (V t 1)).ex (AH (H7 ((Ah F (V t 0)).ex S).1) (V t 0).m 7 ((Ah F (V t 0)).ex S).2)).2):=rfl;rw [e,hr];exact ⟨BR (t:=AJ t [_,_] AA) rfl (D9 (ks:=[_,_]) ⟨af,DK E.E⟩ E.E.row (F2 (aa.Y ah) (Dh (ab.Y ag))) (AN _)),h,g⟩;have hr:EL ((Ah F (V t 0)).ex S).1.ty ((Ah F (V t 1)).ex (AH (H7 ((Ah F (V t 0)).ex S).1) (V t 0).m 7 ((Ah F (V t 0)).ex S).2)).1.ty=true:=by simpa using h2
 refine Ch fun _ _ ga af g E=>?_;have aa:=Bp aa;have ab:=Bp ab;have h:=Ar h;refine AR fun _ ga Ca g E h=>?_;have aa:=AM aa;have ab:=AM ab;refine AR fun _ ga Ca g E h=>?_;have aa:=AM aa;have ab:=AM ab;refine AC ?_;have e:KH t (Fz F t) S=(AJ t [((Ah F (V t 0)).ex S).1,((Ah F (V t 1)).ex (AH (H7 ((Ah F (V t 0)).ex S).1) (V t 0).m 7 ((Ah F (V t 0)).ex S).2)).1] AA,AH (EL ((Ah F (V t 0)).ex S).1.ty ((Ah F (V t 1)).ex (AH (H7 ((Ah F (V t 0)).ex S).1) (V t 0).m 7 ((Ah F (V t 0)).ex S).2)).1.ty) (V t 1).m 7 ((Ah F (V t 1)).ex (AH (H7 ((Ah F (V t 0)).ex S).1) (V t 0).m 7 ((Ah F (V t 0)).ex S).2)).2):=rfl;rw [e,hr];exact ⟨BR (t:=AJ t [_,_] AA) rfl (D9 (ks:=[_,_]) ⟨af,DK E.E⟩ E.E.row (F2 (aa.Y ah) (Dh (ab.Y ag))) (AN _)),h,g⟩
 have hq:H7 ((Ah F (V t 0)).ex S).1=true:=by
  unfold H7;revert h1;cases Ae (((Ah F (V t 0)).ex S).1.c=27) <;> cases Ae (((Ah F (V t 0)).ex S).1.ref=3) <;> cases Ae (((Ah F (V t 0)).ex S).1.c=28) <;> cases Ae (((Ah F (V t 0)).ex S).1.c=29) <;> decide
 have hT:((Ah F (V t 0)).ex S).2=(AH (H7 ((Ah F (V t 0)).ex S).1) (V t 0).m 7 ((Ah F (V t 0)).ex S).2):=by rw [hq];rfl
 rw [hT] at h;obtain ⟨hpe,ao,an,hcell,ae⟩:=Ba ac (i:=1) O;refine R ?_;refine AK (Dy.to (Q1.ex ak) [b3,b4,b5,b6] h ae ai O (E.O Bq) g.size) ?_;rintro _ _ ⟨⟨ap,aq,rfl,ag,ab⟩,h,ga⟩;refine AY fun g E=>?_;have ac:=F0 ac;have aa:=DP aa;refine A1 fun _ _ ga _ g E=>?_;have aa:=Bp aa;have ab:=Bp ab;have h:=Ar h;have ac:=Ar ac;refine AR fun _ ga Ca g E h=>?_;have ac:=Cq ac;have aa:=AM aa;have ab:=AM ab;refine R ?_;refine DA (O0 _ _ _) (fun ar ad=>?_);have g:=Cc g ad;replace E:=E.a ad;have h:=h.a (ad);have ac:=ac.a (ad);have aa:=aa.a (ad);have ab:=ab.a (ad);refine Az (fun h3=>?_) fun h3=>?_;have hr:EL ((Ah F (V t 0)).ex S).1.ty ((Ah F (V t 1)).ex (AH (H7 ((Ah F (V t 0)).ex S).1) (V t 0).m 7 ((Ah F (V t 0)).ex S).2)).1.ty=false:=by simpa using h3
 obtain ⟨hpe,al,aj,hcell,ae⟩:=Ba ac (i:=1) O;refine R ?_;refine AK (F5 (V t 1).m 7 h) ?_;rintro _ _ ⟨rfl,h,ga⟩;refine AY fun g E=>?_;have aa:=DP aa;have ab:=DP ab;refine Ch fun _ _ ga af g E=>?_;have aa:=Bp aa;have ab:=Bp ab;have h:=Ar h;refine AR fun _ ga Ca g E h=>?_;have aa:=AM aa;have ab:=AM ab;refine AR fun _ ga Ca g E h=>?_;have aa:=AM aa;have ab:=AM ab;refine AC ?_;have e:KH t (Fz F t) S=(AJ t [((Ah F (V t 0)).ex S).1,((Ah F (V t 1)).ex (AH (H7 ((Ah F (V t 0)).ex S).1) (V t 0).m 7 ((Ah F (V t 0)).ex S).2)).1] AA,AH (EL ((Ah F (V t 0)).ex S).1.ty ((Ah F (V t 1)).ex (AH (H7 ((Ah F (V t 0)).ex S).1) (V t 0).m 7 ((Ah F (V t 0)).ex S).2)).1.ty) (V t 1).m 7 ((Ah F (V t 1)).ex (AH (H7 ((Ah F (V t 0)).ex S).1) (V t 0).m 7 ((Ah F (V t 0)).ex S).2)).2):=rfl;rw [e,hr];exact ⟨BR (t:=AJ t [_,_] AA) rfl (D9 (ks:=[_,_]) ⟨af,DK E.E⟩ E.E.row (F2 (aa.Y ah) (Dh (ab.Y ag))) (AN _)),h,g⟩;have hr:EL ((Ah F (V t 0)).ex S).1.ty ((Ah F (V t 1)).ex (AH (H7 ((Ah F (V t 0)).ex S).1) (V t 0).m 7 ((Ah F (V t 0)).ex S).2)).1.ty=true:=by simpa using h3
 refine Ch fun _ _ ga af g E=>?_;have aa:=Bp aa;have ab:=Bp ab;have h:=Ar h;refine AR fun _ ga Ca g E h=>?_;have aa:=AM aa;have ab:=AM ab;refine AR fun _ ga Ca g E h=>?_;have aa:=AM aa;have ab:=AM ab;refine AC ?_;have e:KH t (Fz F t) S=(AJ t [((Ah F (V t 0)).ex S).1,((Ah F (V t 1)).ex (AH (H7 ((Ah F (V t 0)).ex S).1) (V t 0).m 7 ((Ah F (V t 0)).ex S).2)).1] AA,AH (EL ((Ah F (V t 0)).ex S).1.ty ((Ah F (V t 1)).ex (AH (H7 ((Ah F (V t 0)).ex S).1) (V t 0).m 7 ((Ah F (V t 0)).ex S).2)).1.ty) (V t 1).m 7 ((Ah F (V t 1)).ex (AH (H7 ((Ah F (V t 0)).ex S).1) (V t 0).m 7 ((Ah F (V t 0)).ex S).2)).2):=rfl;rw [e,hr];exact ⟨BR (t:=AJ t [_,_] AA) rfl (D9 (ks:=[_,_]) ⟨af,DK E.E⟩ E.E.row (F2 (aa.Y ah) (Dh (ab.Y ag))) (AN _)),h,g⟩
theorem aL{t:Nd}(hx:Cg t=true)(h:t.c≠24∧t.c≠25∧t.c≠26∧t.c≠27∧t.c≠34∧t.c≠28∧t.c≠30∧t.c≠38):1≤t.b.length∧Cg (V t 0)=true:=by
 rcases zU hx with k|k|k|k|k|k|k|k|k|k|k|k|k|k|k;exact absurd k h.1;exact absurd k h.2.1;exact absurd k h.2.2.1;exact absurd k h.2.2.2.1;exact absurd k h.2.2.2.2.1;exact absurd k h.2.2.2.2.2.1;obtain ⟨q,r,_⟩:=Te k hx;exact ⟨O,r⟩;exact absurd k h.2.2.2.2.2.2.1;obtain ⟨_,q,r⟩:=bT k hx;exact ⟨O,r⟩;obtain ⟨q,r⟩:=YF k hx;exact ⟨O,r⟩;obtain ⟨_,q,r,_⟩:=Sd k hx;exact ⟨O,r⟩;obtain ⟨q,r⟩:=Y8 k hx;exact ⟨O,r⟩;obtain ⟨q,r⟩:=bD k hx;exact ⟨O,r⟩;obtain ⟨q,r⟩:=Xk k hx;exact ⟨O,r⟩;exact absurd k h.2.2.2.2.2.2.2
theorem uA{F t:Nd}(H':∀ i,i<t.b.length→KD F (V t i))(hx:Cg t=true)(hk:t.c≠24∧t.c≠25∧t.c≠26∧t.c≠27∧t.c≠34∧t.c≠28∧t.c≠30∧t.c≠38):Dy F 107 t (FC t (Fz F t)):=by
 intro n0 b S w v N h ac hb ce;obtain ⟨hl,he⟩:=aL hx hk;obtain ⟨p,c,rfl,_⟩:=id ac;have cd:=h.lt;have a8:=J5 (t:=t) (i:=0) O;rw [← D6 (show 0<t.b.length by omega)] at a8;have Q0:=H' 0 O;have ao:=((EE F (V t 0)).ex S).bd _ hb;have g:=AP.refl DQ n0 w;refine Cj 151 [0,1] Tryz.func107 ?_;refine CN fun b3 _ ga _ g E=>?_;have h:=Ar h;have ac:=Ar ac;refine A1 fun b4 _ ga _ g E=>?_;have h:=Ar h;have ac:=Ar ac;refine R ?_;refine AK (H9 t _ _ _) ?_;rintro _ _ ⟨rfl,ga⟩;refine AY fun g E=>?_;have h:=AO h;have ac:=AO ac;refine A1 fun b5 _ ga _ g E=>?_;have h:=Ar h;have ac:=Ar ac;refine AR fun _ ga Ca g E h=>?_;have ac:=Cq ac;obtain ⟨hpe,bh,bj,hcell,ad⟩:=Ba ac (i:=0) O;refine R ?_;refine AK (Dy.to (Q0.ex he) [b3,b4,b5] h ad hb O (E.O Bq) g.size) ?_;rintro _ _ ⟨⟨bu,b0,rfl,aj,aa⟩,h,ga⟩;refine AY fun g E=>?_;have ac:=F0 ac;refine A1 fun b6 _ ga _ g E=>?_;have aa:=Bp aa;have h:=Ar h;have ac:=Ar ac;refine AR fun _ ga Ca g E h=>?_;have ac:=Cq ac;have aa:=AM aa;refine Ch fun ak _ ga ag g E=>?_;have aa:=Bp aa;have h:=Ar h;have ac:=Ar ac;have a1:=E.W 0 1 rfl rfl rfl;have a0:=E.W 0 2 rfl rfl rfl;have aw:=E.W 0 3 rfl rfl rfl;have a9:=E.W 0 4 rfl rfl rfl;refine AR fun _ ga Ca g E h=>?_;have ac:=Cq ac;have aa:=AM aa;refine Az (fun h1=>?_) fun h1=>?_;have h1:t.c=29:=AV h1;obtain ⟨aq,_,ap⟩:=Te h1 hx;have ax:=Oq aq;have Q1:=H' 1 O;refine R ?_;refine C9 [3,0,3,0,3,3,0,2] ?_
 refine Db fun g E h=>?_;have ac:=ac.a (G.drew _);have aa:=aa.a (G.drew _);obtain ⟨hpe,bi,bp,hcell,ad⟩:=Ba ac (i:=0) O;refine R ?_;refine AK (LQ ((Ah F (V t 0)).ex S).1 _ _ 5 (V t 0).m h) ?_;rintro _ _ ⟨rfl,h,ga⟩;refine AY fun g E=>?_;have ac:=F0 ac;have aa:=DP aa;obtain ⟨hpe,bk,bn,hcell,ad⟩:=Ba ac (i:=1) O;refine R ?_;refine AK (Dy.to (Q1.ex ap) [b3,b4,b5,b6,ak] h ad ((RD _ _ _ _).bd _ ao) O (E.O Bq) g.size) ?_;rintro _ _ ⟨⟨bq,b2,rfl,a2,ae⟩,h,ga⟩;refine AY fun g E=>?_;have ac:=F0 ac;have aa:=DP aa;refine A1 fun b7 _ ga _ g E=>?_;have aa:=Bp aa;have ae:=Bp ae;have h:=Ar h;have ac:=Ar ac;have a6:=E.W 0 1 rfl rfl rfl;refine AR fun _ ga Ca g E h=>?_;have ac:=Cq ac;have aa:=AM aa;have ae:=AM ae;refine R ?_;refine C9 [3,0,3,0,3,3,0,2] ?_;refine Db fun g E h=>?_;have ac:=ac.a (G.drew _);have aa:=aa.a (G.drew _);have ae:=ae.a (G.drew _);obtain ⟨hpe,bg,bo,hcell,ad⟩:=Ba ac (i:=1) O;refine R ?_;refine AK (LQ ((Ah F (V t 1)).ex (DG ((Ah F (V t 0)).ex S).1 5 (V t 0).m ((Ah F (V t 0)).ex S).2)).1 _ _ 1 (V t 1).m h) ?_;rintro _ _ ⟨rfl,h,ga⟩;refine AY fun g E=>?_;have aa:=DP aa;have ae:=DP ae;refine R ?_
 have ab:Dl [b3,b4,b5,b6,b7] w.heap.size _ [((Ah F (V t 0)).ex S).1] (.slice (some ⟨ak,0,none⟩) 1 1):=M1 E.Q ag (aa.mono fun k hk _=>⟨⟨⟨by have:=hk.1.1;omega,by have:=hk.1.2;simp at this ⊢;omega⟩,hk.2⟩,by have:=hk.1.2;simp at this;omega⟩) ⟨⟨ag,by simp;omega⟩,DK E.Q⟩;refine Ch fun _ _ ga _ g E=>?_;have ae:=Bp ae;have h:=Ar h;have ab:=Ar ab;have au:=E.W 0 2 rfl rfl rfl;have hOo:=ab;refine Hq U AB Ck U (H U) ab (H U) U E.E.row (Fq ae a2 D2 (fun j hj=>by obtain rfl:ak=j:=(by injection hj);simp)) BI Dj ⟨by have:=g.size;omega,by have q3:=E.g6.lt;have q4:=E.g5.lt;have q5:=E.g4.lt;have q6:=E.g3.lt;have q7:=E.Q.lt;simp;omega⟩ ?_;intro br bw b1 ab al;replace E:=E.sel [false,true,false,true,true,true,true];replace E:=E.ab al hOo.W Bq;have g:=EY g al Fm;have h:=h.aa al hOo O;refine AR fun _ ga Ca g E h=>?_;have ab:=DO ab;refine AR fun _ ga Ca g E h=>?_;have ab:=DO ab;refine AR fun _ ga Ca g E h=>?_;have ab:=DO ab;refine AC ?_;have e:FC t (Fz F t) S=(AJ t [((Ah F (V t 0)).ex S).1,((Ah F (V t 1)).ex (DG ((Ah F (V t 0)).ex S).1 5 (V t 0).m ((Ah F (V t 0)).ex S).2)).1] tInt,DG ((Ah F (V t 1)).ex (DG ((Ah F (V t 0)).ex S).1 5 (V t 0).m ((Ah F (V t 0)).ex S).2)).1 1 (V t 1).m ((Ah F (V t 1)).ex (DG ((Ah F (V t 0)).ex S).1 5 (V t 0).m ((Ah F (V t 0)).ex S).2)).2):=by unfold FC;dsimp only;rw [BW h1];rfl
 rw [e];exact ⟨BR (t:=AJ t [_,_] tInt) rfl ab.kd,h,g⟩;have h1:t.c≠29:=CM h1;refine Az (fun h2=>?_) fun h2=>?_;have h2:t.c=31:=AV h2;refine AR fun _ ga Ca g E h=>?_;have aa:=AM aa;refine Az (fun h3=>?_) fun h3=>?_;(try simp only [BJ] at h3);refine AR fun _ ga Ca g E h=>?_;have aa:=AM aa;refine R ?_;refine AK (LQ ((Ah F (V t 0)).ex S).1 _ _ _ t.m h) ?_;rintro _ _ ⟨rfl,h,ga⟩;refine AY fun g E=>?_;have aa:=DP aa;refine AR fun _ ga Ca g E h=>?_;have aa:=AM aa;refine AC ?_;have e:FC t (Fz F t) S=(AJ t [((Ah F (V t 0)).ex S).1] tBool,DG ((Ah F (V t 0)).ex S).1 2 t.m ((Ah F (V t 0)).ex S).2):=by unfold FC;dsimp only;rw [Aq h1,BW h2];unfold KG;rw [h3];rfl
 rw [e];exact ⟨BR (t:=AJ t [_] _) rfl (D9 (ks:=[_]) ⟨ag,DK E.E⟩ E.E.row (Dh (aa.Y aj)) (AN _)),h,g⟩;refine R ?_;refine AK (LQ ((Ah F (V t 0)).ex S).1 _ _ _ t.m h) ?_;rintro _ _ ⟨rfl,h,ga⟩;refine AY fun g E=>?_;have aa:=DP aa;refine AR fun _ ga Ca g E h=>?_;have aa:=AM aa;refine AC ?_;have e:FC t (Fz F t) S=(AJ t [((Ah F (V t 0)).ex S).1] tInt,DG ((Ah F (V t 0)).ex S).1 1 t.m ((Ah F (V t 0)).ex S).2):=by unfold FC;dsimp only;rw [Aq h1,BW h2];unfold KG;rw [h3];rfl
 rw [e];exact ⟨BR (t:=AJ t [_] _) rfl (D9 (ks:=[_]) ⟨ag,DK E.E⟩ E.E.row (Dh (aa.Y aj)) (AN _)),h,g⟩;have h2:t.c≠31:=CM h2;refine Az (fun h4=>?_) fun h4=>?_;have h4:t.c=32:=AV h4;obtain ⟨_,aq,_,ap⟩:=Sd h4 hx;have ax:=Oq aq;have Q1:=H' 1 O;obtain ⟨hpe,bf,bc,hcell,ad⟩:=Ba ac (i:=1) O;refine R ?_;refine AK (Dy.to (Q1.ex ap) [b3,b4,b5,b6,ak] h ad ao O (E.O Bq) g.size) ?_;rintro _ _ ⟨⟨bt,cb,rfl,a7,ai⟩,h,ga⟩;refine AY fun g E=>?_;have aa:=DP aa;refine A1 fun b8 _ ga _ g E=>?_;have aa:=Bp aa;have ai:=Bp ai;have h:=Ar h;have az:=E.W 0 1 rfl rfl rfl;refine AR fun _ ga Ca g E h=>?_;have aa:=AM aa;have ai:=AM ai;refine R ?_;have ab:Dl [b3,b4,b5,b6,b8] w.heap.size _ [((Ah F (V t 0)).ex S).1] (.slice (some ⟨ak,0,none⟩) 1 1):=M1 E.Q ag (aa.mono fun k hk _=>⟨⟨⟨by have:=hk.1.1;omega,by have:=hk.1.2;simp at this ⊢;omega⟩,hk.2⟩,by have:=hk.1.2;simp at this;omega⟩) ⟨⟨ag,by simp;omega⟩,DK E.Q⟩;refine Ch fun _ _ ga _ g E=>?_;have ai:=Bp ai;have h:=Ar h;have ab:=Ar ab;have ar:=E.W 0 2 rfl rfl rfl;have hOo:=ab;refine Hq U AB Ck U (H U) ab (H U) U E.E.row (Fq ai a7 D2 (fun j hj=>by obtain rfl:ak=j:=(by injection hj);simp)) BI Dj ⟨by have:=g.size;omega,by have q3:=E.g6.lt;have q4:=E.g5.lt;have q5:=E.g4.lt;have q6:=E.g3.lt;have q8:=E.Q.lt;simp;omega⟩ ?_;intro bv bz bs ab am;replace E:=E.sel [false,true,false,true,true,true,true];replace E:=E.ab am hOo.W Bq
 have g:=EY g am Fm;have h:=h.aa am hOo O;refine AR fun _ ga Ca g E h=>?_;have ab:=DO ab;refine R ?_;refine DA (yO _ _ _ _) (fun b9 an=>?_);have g:=Cc g an;replace E:=E.a an;have h:=h.a (an);have ab:=ab.a (an);refine A1 fun _ _ ga _ g E=>?_;have h:=Ar h;have ab:=Ar ab;refine AR fun _ ga Ca g E h=>?_;have ab:=DO ab;refine Az (fun h5=>?_) fun h5=>?_;(try simp only [BJ] at h5);refine R ?_;refine AK (F5 t.m 7 h) ?_;rintro _ _ ⟨rfl,h,ga⟩;refine AY fun g E=>?_;have ab:=ab.gt ga rfl;refine R ?_;refine CZ U E0 (H U) (H U) U U E.g3 U U ?_;intro bm ah _ BS;have C5:=E.g3;replace E:=E.s3 ah BS;have g:=CC g ah O;have h:=h.A ah C5 rfl O;first|have ab:=ab.af ah C5 rfl|have ab:=ab.A ah BI
 refine AR fun _ ga Ca g E h=>?_;have ab:=DO ab;refine AC ?_;have e:FC t (Fz F t) S=(AJ t [((Ah F (V t 0)).ex S).1,((Ah F (V t 1)).ex ((Ah F (V t 0)).ex S).2).1] (Gm t.i ((Ah F (V t 0)).ex S).1.ty ((Ah F (V t 1)).ex ((Ah F (V t 0)).ex S).2).1.ty).1,AH (Gm t.i ((Ah F (V t 0)).ex S).1.ty ((Ah F (V t 1)).ex ((Ah F (V t 0)).ex S).2).1.ty).2 t.m 7 ((Ah F (V t 1)).ex ((Ah F (V t 0)).ex S).2).2):=by unfold FC;dsimp only;rw [Aq h1,Aq h2,BW h4];rfl
 rw [e];have hr:(Gm t.i ((Ah F (V t 0)).ex S).1.ty ((Ah F (V t 1)).ex ((Ah F (V t 0)).ex S).2).1.ty).2=false:=by simpa using h5
 rw [hr];exact ⟨BR (t:=AJ t [_,_] _) rfl ab.kd,h,g⟩;refine R ?_;refine CZ U E0 (H U) (H U) U U E.g3 U U ?_;intro be af _ BS;have C5:=E.g3;replace E:=E.s3 af BS;have g:=CC g af O;have h:=h.A af C5 rfl O;first|have ab:=ab.af af C5 rfl|have ab:=ab.A af BI
 refine AR fun _ ga Ca g E h=>?_;have ab:=DO ab;refine AC ?_;have e:FC t (Fz F t) S=(AJ t [((Ah F (V t 0)).ex S).1,((Ah F (V t 1)).ex ((Ah F (V t 0)).ex S).2).1] (Gm t.i ((Ah F (V t 0)).ex S).1.ty ((Ah F (V t 1)).ex ((Ah F (V t 0)).ex S).2).1.ty).1,AH (Gm t.i ((Ah F (V t 0)).ex S).1.ty ((Ah F (V t 1)).ex ((Ah F (V t 0)).ex S).2).1.ty).2 t.m 7 ((Ah F (V t 1)).ex ((Ah F (V t 0)).ex S).2).2):=by unfold FC;dsimp only;rw [Aq h1,Aq h2,BW h4];rfl
 rw [e];have hr:(Gm t.i ((Ah F (V t 0)).ex S).1.ty ((Ah F (V t 1)).ex ((Ah F (V t 0)).ex S).2).1.ty).2=true:=by simpa using h5
 rw [hr];exact ⟨BR (t:=AJ t [_,_] _) rfl ab.kd,h,g⟩;have h4:t.c≠32:=CM h4;refine Az (fun h6=>?_) fun h6=>?_;(try simp only [BJ] at h6);refine R ?_;refine AK (LQ ((Ah F (V t 0)).ex S).1 _ _ 6 t.m h) ?_;rintro _ _ ⟨rfl,h,ga⟩;refine AY fun g E=>?_;have aa:=DP aa;refine AR fun _ ga Ca g E h=>?_;have aa:=AM aa;refine AR fun _ ga Ca g E h=>?_;have aa:=AM aa;refine AC ?_;have e:FC t (Fz F t) S=(AJ t [((Ah F (V t 0)).ex S).1] tInt,DG ((Ah F (V t 0)).ex S).1 6 t.m ((Ah F (V t 0)).ex S).2):=by unfold FC;dsimp only;rw [Aq h1,Aq h2,Aq h4,h6];rfl
 rw [e];exact ⟨BR (t:=AJ t [_] _) rfl (D9 (ks:=[_]) ⟨ag,DK E.E⟩ E.E.row (Dh (aa.Y aj)) (AN _)),h,g⟩;refine Az (fun h7=>?_) fun h7=>?_;(try simp only [BJ] at h7);refine R ?_;refine C9 [3,0,3,0,3,3,0,2] ?_;refine Db fun g E h=>?_;have ac:=ac.a (G.drew _);have aa:=aa.a (G.drew _);obtain ⟨hpe,a5,av,hcell,ad⟩:=Ba ac (i:=0) O;refine R ?_;refine AK (LQ ((Ah F (V t 0)).ex S).1 _ _ 5 (V t 0).m h) ?_;rintro _ _ ⟨rfl,h,ga⟩;refine AY fun g E=>?_;have aa:=DP aa;refine AR fun _ ga Ca g E h=>?_;have aa:=AM aa;refine AR fun _ ga Ca g E h=>?_;have aa:=AM aa;refine AC ?_;have e:FC t (Fz F t) S=(AJ t [((Ah F (V t 0)).ex S).1] tInt,DG ((Ah F (V t 0)).ex S).1 5 (V t 0).m ((Ah F (V t 0)).ex S).2):=by unfold FC;dsimp only;rw [Aq h1,Aq h2,Aq h4,h6,h7];rfl
 rw [e];exact ⟨BR (t:=AJ t [_] _) rfl (D9 (ks:=[_]) ⟨ag,DK E.E⟩ E.E.row (Dh (aa.Y aj)) (AN _)),h,g⟩;refine Az (fun h8=>?_) fun h8=>?_;(try simp only [BJ] at h8);refine R ?_;refine C9 [3,0,3,0,3,3,0,2] ?_;refine Db fun g E h=>?_;have ac:=ac.a (G.drew _);have aa:=aa.a (G.drew _);obtain ⟨hpe,a3,ay,hcell,ad⟩:=Ba ac (i:=0) O;refine R ?_;refine AK (LQ ((Ah F (V t 0)).ex S).1 _ _ 1 (V t 0).m h) ?_;rintro _ _ ⟨rfl,h,ga⟩;refine AY fun g E=>?_;have aa:=DP aa;refine AR fun _ ga Ca g E h=>?_;have aa:=AM aa;refine AR fun _ ga Ca g E h=>?_;have aa:=AM aa;refine AC ?_;have e:FC t (Fz F t) S=(AJ t [((Ah F (V t 0)).ex S).1] ⟨5,[]⟩,DG ((Ah F (V t 0)).ex S).1 1 (V t 0).m ((Ah F (V t 0)).ex S).2):=by unfold FC;dsimp only;rw [Aq h1,Aq h2,Aq h4,h6,h7,h8];rfl
 rw [e];exact ⟨BR (t:=AJ t [_] _) rfl (D9 (ks:=[_]) ⟨ag,DK E.E⟩ E.E.row (Dh (aa.Y aj)) (AN _)),h,g⟩;refine Az (fun h9=>?_) fun h9=>?_;(try simp only [BJ] at h9);refine R ?_;refine C9 [3,0,3,0,3,3,0,2] ?_;refine Db fun g E h=>?_;have ac:=ac.a (G.drew _);have aa:=aa.a (G.drew _);obtain ⟨hpe,ba,a4,hcell,ad⟩:=Ba ac (i:=0) O;refine R ?_;refine AK (LQ ((Ah F (V t 0)).ex S).1 _ _ 1 (V t 0).m h) ?_;rintro _ _ ⟨rfl,h,ga⟩;refine AY fun g E=>?_;have aa:=DP aa;refine AR fun _ ga Ca g E h=>?_;have aa:=AM aa;refine AR fun _ ga Ca g E h=>?_;have aa:=AM aa;refine AC ?_;have e:FC t (Fz F t) S=(AJ t [((Ah F (V t 0)).ex S).1] ⟨6,[]⟩,DG ((Ah F (V t 0)).ex S).1 1 (V t 0).m ((Ah F (V t 0)).ex S).2):=by unfold FC;dsimp only;rw [Aq h1,Aq h2,Aq h4,h6,h7,h8,h9];rfl
 rw [e];exact ⟨BR (t:=AJ t [_] _) rfl (D9 (ks:=[_]) ⟨ag,DK E.E⟩ E.E.row (Dh (aa.Y aj)) (AN _)),h,g⟩;refine AR fun _ ga Ca g E h=>?_;have aa:=AM aa;refine AC ?_;have e:FC t (Fz F t) S=(AJ t [((Ah F (V t 0)).ex S).1] AA,((Ah F (V t 0)).ex S).2):=by unfold FC;dsimp only;rw [Aq h1,Aq h2,Aq h4,h6,h7,h8,h9];rfl
 rw [e];exact ⟨BR (t:=AJ t [_] _) rfl (D9 (ks:=[_]) ⟨ag,DK E.E⟩ E.E.row (Dh (aa.Y aj)) (AN _)),h,g⟩
set_option maxHeartbeats 1000000
theorem oL{w w':Ad}{a:Option Addr}{m m' c:Nat}(h:w.grownBy w' (BH a m c).ownBlock):w.grownBy w' (BH a m' c).ownBlock:=by cases a <;> exact h
theorem Ss{F t:Nd}(S:An):∀ i,i≤t.b.length→GQ (Ax F t) S i=GQ (Fz F t) S i
 | 0,_=>rfl
 | i+1,h=>by
  rw [GQ,GQ,Ss S i O,Dz (show i<t.b.length by omega)];rfl
theorem T0(x:Nat→GT)(S:An):∀ i,(GQ x S i).1.length=i
 | 0=>rfl
 | i+1=>by
  show ((GQ x S i).1++[_]).length=_;rw [DF,T0 x S i];rfl
theorem cR{F t:Nd}(S:An)(i:Nat)(h:i≤t.b.length):BZ (CV t i) S (GQ (Fz F t) S i).2:=by
 rw [← Ss S i h];exact Un (Nv F t) S i
theorem yR{F t:Nd}(H':∀ i,i<t.b.length→KD F (V t i))(hx:El t=true):OL 1000001 F 44 t (Ah F t).u:=by
 intro n0 b S w v N h ah hb ay;have af:=L3 hx
 have e:(Ah F t).u S=(AJ t (GQ (Fz F t) S t.b.length).1 AA,(GQ (Fz F t) S t.b.length).2):=by
  rw [GL];show (AJ t (GQ (Ax F t) S t.b.length).1 AA,(GQ (Ax F t) S t.b.length).2)=_;rw [Ss S _ (AN _)]
 rw [e];obtain ⟨p,c,rfl,_⟩:=id ah;have a3:=h.lt;have aw:=Ej t;have g:=AP.refl DQ n0 w;refine Cj 29 [0,1] Tryz.func44 ?_;refine CN fun b3 _ ga _ g E=>?_;have h:=Ar h;refine A1 fun b4 _ ga _ g E=>?_;have h:=Ar h;refine R ?_;refine AK (H9 t _ _ _) ?_;rintro _ _ ⟨rfl,ga⟩;refine AY fun g E=>?_;have h:=AO h;refine A1 fun b5 _ ga _ g E=>?_;have h:=Ar h;refine AR fun _ ga Ca g E h=>?_;refine R ?_;have aj:=E.1;refine GG (fun (i:Nat) u1=>(i≤t.b.length∧D4 F n0 b (GQ (Fz F t) S i).2 u1∧∃ s,Av u1 b5 26 (Cs (DN t) s)∧Dl [b3,b4,b5] w.heap.size u1 (GQ (Fz F t) S i).1 s)∧AP DQ n0 w u1) _ [(0,True,_),(3,True,_),(4,True,_),(5,True,_)] (fun (i:Nat)=>[(6,True,.int .i64 i)]) (fun (i:Nat)=>t.b.length-i) (0) ⟨⟨Cr _,h,_,E.E,Kq _ _ _⟩,g⟩ (A4 (A6 E.g2) (A4 (A6 E.Q) (Di _))) (K U (K U (K U (K U (K U (Bm _)))))) ?_;clear E;rintro i u1 ⟨ao,ai⟩ ⟨B3,B4,_⟩;replace B3:Av _ _ _ _:=B3;replace B4:Av _ _ _ _:=B4;have g:=ai;obtain ⟨hi,h,s,B5,hO⟩:=ao;obtain ⟨sa,sc,rfl⟩:=hO.slice;have ag:=ah.gt ai (fun k h=>h);have E:=GP (L:=[(b5,_,_),(b4,_,_),(b3,_,_)]) aj ⟨B5,B4,B3,BN⟩ rfl;refine Az (fun h1=>?_) fun h1=>?_;have h1:i<t.b.length:=by simp only [BQ] at h1;omega
 obtain ⟨e0,p1,c1,hcell,aa⟩:=Ba ag (i:=i) h1;have al:E5 p<n0:=Gk ag h1;have hq:Dy F 64 (V t i) (Ah F (V t i)).st:=(H' i h1).st (IK af h1);have am:=(cR (F:=F) S i hi).bd _ hb;have a4:=IC t (i+1);have ar:=H4 h1;have aq:CV t (i+1)=CV t i+DM t i:=rfl;have ak:=hO.lt;have ap:=T0 (Fz F t) S i;refine R ?_;refine DE (Q7 n0) [3,0,3,3,0,3,3,0,1,1,2,3,2] [0,1,0,0,8,0,56,120,252,508,1023,2047,4095] CI Ai [0,1,2,3,4,5,6,7,8,9,10,11,12] U ?_;refine Db fun g E h=>?_;have hO:=hO.a (G.drew _);have hcell:=hcell.a (G.drew _);have aa:=aa.a (G.drew _);refine Au 0 U U (fun _=>AE AW (H U)) (Bg 1 U U (fun w1 hx=>AU Bj (H U) (fun _=>(E.E.gt hx U).j U)) (Au 2 U U (fun _=>A9 (H U)) (Au 3 U U (fun _=>AE AW (H U)) (Bg 4 U U (fun w1 hx=>AU Bj (H U) (fun _=>(E.g2.gt hx U).j U)) (Au 5 U U (fun _=>A9 (H U)) (Au 6 U U (fun _=>CS AB (H U) (H U) (fun _=>O) (fun _=>e0)) (Bg 7 U U (fun w1 hx=>A2 A3 (H U) U (fun _=>hcell.gt hx al)) (AQ 8 U U ?_))))))));refine Br (L':=[9,10,11,12]) [3,0,3,3,0,3,3,0,2,1,2,3,2] U U U ?_;refine AK (Dy.to hq [b3,b4,b5] h aa am O (E.O Bq) g.size) ?_;rintro au a1 ⟨⟨a0,av,rfl,an,ae⟩,h,ac⟩;refine ⟨E3,?_⟩;have g:=g.trans ac;replace E:=E.gt ac rfl;have hO:=hO.gt ac rfl;refine Bs (ac) ?_;refine AQ 9 U U ?_;refine Br (L':=[10,11,12]) [3,0,3,3,0,3,3,0,2,1,2,3,2] U U U ?_;refine Ch fun _ _ ad _ g E=>?_;have ae:=ae.new ad;have h:=h.a (ad.g);have hO:=hO.a (ad.g)
 refine Bs (AP.J (ad.g)) ?_;refine AQ 10 U U ?_;refine Ds (L':=[11,12]) [3,0,3,3,0,3,3,0,2,1,2,3,2] U U U U ?_;have hOo:=hO;refine Hq U AB Ck U (H U) hO (H U) U E.E.row (Fq ae an D2 (fun j hj=>.inr (ak j hj))) (by simp;omega) Dj ⟨by have:=g.size;omega,by have q3:=E.g3.lt;have q4:=E.g2.lt;have q5:=E.Q.lt;simp;omega⟩ ?_;intro az ax a2 hO ab;replace E:=E.sel [false,true,true,true];replace E:=E.ab ab hOo.W Bq;have g:=EY g ab Fm;have h:=h.aa ab hOo O;refine Dr ?_;refine Au 11 U U (fun _=>AE AW (H U)) (AQ 12 U U ?_);refine Ds (L':=[]) [3,0,3,3,0,3,3,0,2,1,2,3,2] U U U U ?_;refine AR fun _ ga Ca g E h=>?_;have hO:=AM hO;refine Dr ?_;refine Dp [0,3,4,5,6] ?_;refine R ?_;refine BL [6,0,3,4,5] ?_;refine Al (fun a ha=>?_);exact ⟨i+1,ha,⟨⟨h1,h,_,E.E,hO⟩,g⟩,(A4 (A6 E.g2) (A4 (A6 E.Q) (Di _))),O⟩;have h1:i=t.b.length:=by simp only [CK] at h1;omega
 subst h1;refine AR fun _ ga Ca g E h=>?_;have hO:=AM hO;refine AC ?_;exact ⟨BR (t:=AJ t _ AA) rfl hO.kd,h,g⟩
theorem rC{F t:Nd}(H':∀ i,i<t.b.length→KD F (V t i))(ap:t.c=38)(hx:Cg t=true):Dy F 103 t (NP t (Fz F t)):=by
 intro n0 b S w v N h aa hb br;obtain ⟨hl,az⟩:=Sy ap hx;obtain ⟨p,c,rfl,_⟩:=id aa;have bp:=h.lt;have a5:=P6 hl;have Q0:=H' 0 O;have al:=hb.lv;have a6:=hb.nl;have ao:=UQ hb;have ax:=(EE F (V t 0)).p (Fj S);have a2:((Ah F (V t 0)).p (Fj S)).2.n=S.n+1:=ax.n;obtain ⟨fv,sv,sn,h⟩:=h;have g:=AP.refl DQ n0 w;refine Cj 60 [0,1] Tryz.func103 ?_;refine CN fun b3 _ ga _ g E=>?_;have h:=Ar h;have aa:=Ar aa;refine A1 fun b4 _ ga _ g E=>?_;have h:=Ar h;have aa:=Ar aa;refine R ?_;refine AK (H9 t _ _ _) ?_;rintro _ _ ⟨rfl,ga⟩;refine AY fun g E=>?_;have h:=AO h;have aa:=AO aa;refine A1 fun b5 _ ga _ g E=>?_;have h:=Ar h;have aa:=Ar aa;refine AR fun _ ga Ca g E h=>?_;have aa:=Cq aa;refine Al (kq (Ao (Ay (Gi Fw HW (A5 U Cz) U U (AF Fl U (CZ U E0 (H U) (H U) U U E.E U U ?_))))));intro bm ae _ BS;have C5:=E.E;replace E:=E.s0 ae BS;have g:=CC g ae O;have h:=h.A ae C5 rfl O;have aa:=aa.A ae Gp;refine Al (kq (Ao (Ay (As U (Dd U (AF fB U (CH Ci U U (h.B.row.part 13 2) (A1 fun b6 _ ga _ g E=>?_))))))));have h:=Ar h;have aa:=Ar aa;refine AR fun _ ga Ca g E h=>?_;have aa:=Cq aa;refine R ?_;refine CZ U E0 (H U) (H U) U U h.B U U ?_;intro wA ag ba BA;replace E:=E.ae ag (h.B) rfl;have g:=Jl g ag h.B rfl h.hb;have aa:=aa.A ag (fun k hk _ e=>by injection e with e;have:=h.hb;omega);have h:=h.set (S':={ S with o:=AA }) ag BA rfl rfl;have l1:({ S with o:=AA }:An).n=S.n:=rfl;refine R ?_
 refine CZ U IU (H U) (H U) U U h.B U U ?_;intro wB af bo BB;replace E:=E.ae af (h.B) rfl;have g:=Jl g af h.B rfl h.hb;have aa:=aa.A af (fun k hk _ e=>by injection e with e;have:=h.hb;omega);have h:=h.set (S':={ S with o:=AA,n:=S.n+1 }) af BB rfl rfl;obtain ⟨an,cn,rfl,ay⟩:=Im h.on;have l2:({ S with o:=AA,n:=S.n+1 }:An).n=S.n+1:=rfl;have a8:({ S with o:=AA,n:=S.n+1 }:An).next.length=S.next.length:=rfl;refine Al (kq (Ao (C9 [3,3,3,3,0,3,3,3,0,3,1,2,3,3,2] ?_)));refine Db fun g E h=>?_;have aa:=aa.a (G.drew _);refine As U (As U (Dd U (AF P9 U (AL Nn U (h.B.j U) (As U (Dd U (AF RP U (AL Cd U (h.B.j U) (AG U (fun _=>OS GR (H U) (H U) (fun _=>O)) (Fo _ U GR Lp (A5 U Cz) U U ?_))))))))));intro bc bg ad;have be:=Du ad g.size;have a4:=ad.p;have g:=Cc g ad.g;replace E:=E.a ad.g;have h:=h.a (ad.g);have aa:=aa.a (ad.g);refine ID U GR Lp U Cb (H U) (Rn h.on (j:=S.n+1) al) (H U) U ad.p.row U (by simp only [maxLen];omega) O Dj ?_;intro bh Oq ar am ab aw;have ab:World.grownBy _ ar (BH an S.next.length cn).ownBlock:=oL ab;have g:=fF g h.on rfl ab;replace E:=E.az h.on ab rfl;have aa:=aa.A ab (fun k hk _ e=>by have:=(Qy (M:=DQ) h.on rfl k e.symm).1;omega);refine R ?_
 refine CZ U O5 (H U) (H U) U U (h.a3 ab).1 U U ?_;intro wC ai bk BC;replace E:=E.ae ai ((h.a3 ab).1) rfl;have g:=Jl g ai (h.a3 ab).1 rfl h.hb;have aa:=aa.A ai (fun k hk _ e=>by injection e with e;have:=h.hb;omega)
 have av:(Fj S).next.length=S.n+1+1:=by
  show (S.next.take (S.n+1)++[0]).length=_;rw [DF,DV,Nat.min_eq_left al];rfl
 have au:(Fj S).next.map (fun (k:Nat)=>Value.int .i64 (k:Int))=(S.next.map fun (k:Nat)=>Value.int .i64 (k:Int)).take ((S.n+1)*1)++[.int .i64 0]:=by
  show (S.next.take (S.n+1)++[0]).map _=_;rw [List.map_append,List.map_take,Nat.mul_one];rfl
 have h:=h.bm (S':=Fj S) ab (by rw [av,au];exact am) ai BC rfl;obtain ⟨hpe,a1,a3,hcell,ak⟩:=Ba aa (i:=0) O;refine R ?_;refine AK (Dy.to (Q0.p az) [b3,b4,b5,b6] h.ah ak ao O (E.O Bq) g.size) ?_;rintro _ _ ⟨⟨bq,bn,rfl,a0,ac⟩,hT,ga⟩;refine AY fun g E=>?_;obtain ⟨a9,bf,bj,h⟩:=hT;refine Ch fun _ _ ga aq g E=>?_;have ac:=Bp ac;have h:=Ar h;refine AR fun _ ga Ca g E h=>?_;have ac:=ac.A ga Cn;refine R ?_;refine CZ U IU (H U) (H U) U U h.B U U ?_;intro wD aj bi BD;replace E:=E.ae aj (h.B) rfl;have g:=Jl g aj h.B rfl h.hb;have ac:=ac.an aj h.B rfl;have eD:(((Ah F (V t 0)).p (Fj S)).2.n:Int)-1=((((Ah F (V t 0)).p (Fj S)).2.n-1:Nat):Int):=by omega
 rw [eD] at BD;have h:=h.set (S':={ ((Ah F (V t 0)).p (Fj S)).2 with n:=((Ah F (V t 0)).p (Fj S)).2.n-1 }) aj BD rfl rfl;refine R ?_;refine CZ U E0 (H U) (H U) U U h.B U U ?_;intro wE ah a7 BE;replace E:=E.ae ah (h.B) rfl;have g:=Jl g ah h.B rfl h.hb;have ac:=ac.an ah h.B rfl;have h:=h.set (S':={ ((Ah F (V t 0)).p (Fj S)).2 with n:=((Ah F (V t 0)).p (Fj S)).2.n-1,o:=S.o }) ah BE rfl rfl;refine AR fun _ ga Ca g E h=>?_;have ac:=ac.A ga Cn;refine AC ?_;exact ⟨BR (t:=AJ t [_] tFunc) rfl (D9 (ks:=[_]) ⟨aq,DK E.E⟩ E.E.row (Dh (ac.Y a0)) (AN _)),h.ah,g⟩
set_option maxHeartbeats 1000000
theorem xG{w:Ad}{l:List JA}{p:Option Addr}{c:Nat}(h:Le KA w l (.slice p l.length c)){i:Nat}(hi:i<l.length):p=some ⟨E5 p,Gq p,none⟩∧Cv w (E5 p) (Gq p+i*3) (KA l[i]):=by
 obtain ⟨p',c',hv,hc,h⟩:=h;injection hv with e1 _ e2;subst e1;obtain ⟨b,o,rfl,hR⟩:=h O;exact ⟨rfl,Ow (f:=KA) (z:=3) Zx hR hi⟩
theorem EP.a1{lo lo':Nat}{X:List Nat}{w:Ad}{ks:List Nd}{v:Bd}(h:EP lo X w ks v)(hl:lo'≤lo):EP lo' X w ks v:=Bo.mono h fun k hk _=>⟨⟨Dg hl hk.1.1,hk.1.2⟩,hk.2⟩
theorem nO(F:Nd)(name:List UInt8):(Gf F name).1.length≤count F:=by
 unfold Gf
 cases h:F.b.find? (J3 name) with
 | none=>exact Cr _
 | some d =>
  dsimp only;have hm:=IG h;have hc:=Mt hm;have hk:=Ej d
  cases h2:Hv GY d.b with
  | none=>exact Cr _
  | some l =>
   have:=RM GY _ _ h2;show l.length≤_;omega
theorem sW{L:List JA}{i:Nat}(h:i<L.length)(s:List UInt8):(L.drop i).find? (fun f=>Ae (f.name=s))=bif Ae (L[i].name=s) then some L[i] else (L.drop (i+1)).find? (fun f=>Ae (f.name=s)):=by
 rw [Jb h,List.find?_cons];cases Ae (L[i].name=s) <;> rfl
theorem XF{F t:Nd}(H':∀ i,i<t.b.length→KD F (V t i))(ai:t.c=28)(hx:Cg t=true):Nj F t:=by
 intro n0 b S w v N h ab hb a1;obtain ⟨_,hl,he⟩:=QA ai hx
 have e:(Ah F t).w S=Ew F t (Fz F t) S:=by
  rw [GL];show Ew F t (Ax F t) S=_;unfold Ew;rw [Dz (show 0<t.b.length by omega)];rfl
 rw [e];obtain ⟨p,c,rfl,_⟩:=id ab;have az:=h.lt;have av:=P6 hl;have Q0:=H' 0 O;have g:=AP.refl DQ n0 w;refine Cj 68 [0,1] Tryz.func106 ?_;refine CN fun b3 _ ga _ g E=>?_;have h:=Ar h;have ab:=Ar ab;refine A1 fun b4 _ ga _ g E=>?_;have h:=Ar h;have ab:=Ar ab;refine R ?_;refine AK (H9 t _ _ _) ?_;rintro _ _ ⟨rfl,ga⟩;refine AY fun g E=>?_;have h:=AO h;have ab:=AO ab;refine A1 fun b6 _ ga _ g E=>?_;have h:=Ar h;have ab:=Ar ab;refine AR fun _ ga Ca g E h=>?_;have ab:=Cq ab;obtain ⟨hpe,ar,au,hcell,ah⟩:=Ba ab (i:=0) O;refine R ?_;refine AK (Dy.to (Q0.ex he) [b3,b4,b6] h ah hb O (E.O Bq) g.size) ?_;rintro _ _ ⟨⟨al,ao,rfl,aj,aa⟩,h,ga⟩;refine AY fun g E=>?_;refine A1 fun b7 _ ga _ g E=>?_;have aa:=Bp aa;have h:=Ar h;refine AR fun _ ga Ca g E h=>?_;have aa:=AM aa;refine Ch fun am _ ga ag g E=>?_;have aa:=Bp aa;have h:=Ar h;refine AR fun _ ga Ca g E h=>?_;have aa:=AM aa;refine Az (fun h1=>?_) fun h1=>?_;have hq:Ae (((Ah F (V t 0)).ex S).1.ty.c=4)=false:=by simpa using h1
 refine R ?_;refine AK (F5 t.m 7 h) ?_;rintro _ _ ⟨rfl,h,ga⟩;refine AY fun g E=>?_;have aa:=DP aa;refine AR fun _ ga Ca g E h=>?_;have aa:=AM aa;refine AC ?_;have e:Ew F t (Fz F t) S=((AJ t [((Ah F (V t 0)).ex S).1] AA,false),DI t.m 7 ((Ah F (V t 0)).ex S).2):=by unfold Ew;show (bif Ae (((Ah F (V t 0)).ex S).1.ty.c=4) then _ else _)=_;rw [hq];rfl
 rw [e];exact ⟨⟨_,rfl,BR (t:=AJ t [_] AA) rfl (D9 (ks:=[_]) ⟨ag,DK E.E⟩ E.E.row (Dh (aa.Y aj)) (AN _))⟩,h,g⟩;have hq:Ae (((Ah F (V t 0)).ex S).1.ty.c=4)=true:=by simpa using h1
 obtain ⟨fv,sv,sn,h⟩:=h;have aa:=aa.a1 aj;have ay:=nO F ((Ah F (V t 0)).ex S).1.ty.name;have aw:=h.hF;refine CU (kq (Ao (C9 [3,3,3,0,3,3,0,1,3,3,3,3,3] ?_)));refine Db fun g E h=>?_;have aa:=aa.a (G.drew _);refine As U (Dd U (AF Ou U (CH A3 U U (h.B.row.part 0 9) (AF Fl U (AF Ui U (AL DU U (E.Q.j U) (AK (rW F ((Ah F (V t 0)).ex S).1.ty.name fv (fun k=>k<n0) _ h.kF h.hF) ?_)))))));rintro _ an ⟨⟨a0,rfl,ac⟩,ga⟩;refine AY fun g E=>?_;have h:=AO h;have aa:=AO aa;obtain ⟨ak,aq,rfl,_,_⟩:=id ac;refine R ?_;refine GZ (fun (i:Nat) u1=>(i≤(Gf F ((Ah F (V t 0)).ex S).1.ty.name).1.length∧(Gf F ((Ah F (V t 0)).ex S).1.ty.name).1.find? (fun f=>Ae (f.name=t.i))=((Gf F ((Ah F (V t 0)).ex S).1.ty.name).1.drop i).find? (fun f=>Ae (f.name=t.i))∧FY F n0 b ((Ah F (V t 0)).ex S).2 fv sv sn u1∧Le KA u1 (Gf F ((Ah F (V t 0)).ex S).1.ty.name).1 (.slice ak (Gf F ((Ah F (V t 0)).ex S).1.ty.name).1.length aq)∧EP w.heap.size [am,b7,b3,b4,b6] u1 ((Ah F (V t 0)).ex S).1.b (.slice al ((Ah F (V t 0)).ex S).1.b.length ao))∧AP DQ n0 an u1) [(0,True,_),(3,True,_),(4,True,_),(6,True,_),(8,True,_)] (fun (i:Nat)=>[(10,True,.int .i64 i)]) (fun (i:Nat)=>(Gf F ((Ah F (V t 0)).ex S).1.ty.name).1.length-i) (0) ⟨⟨Cr _,rfl,h,ac,aa⟩,AP.refl _ _ _⟩ (K U (K U (K U (K U (K U (K U (Bm _))))))) ?_;rintro i u1 ⟨ap,ad⟩;have g:=g.trans ad;replace E:=E.gt ad rfl
 obtain ⟨hi,hF,h,ac,aa⟩:=ap;refine Ao (Ao (Ay (As U (As U (ED Ps U (G2 U U (Al (kq (CB U (fun h2=>?_) (fun h2=>?_))))))))));have h2:i<(Gf F ((Ah F (V t 0)).ex S).1.ty.name).1.length:=by simp only [BQ] at h2;omega
 have af:=xG ac h2;rw [sW h2] at hF;refine CU (kq (Ao (DY (Ao (C9 [3,3,3,3,0,3,0,3] ?_)))));have g:=Ng g;have ad:=ad.trans (AP.J (G.drew _));replace E:=E.dr;have h:=h.a (G.drew _);have ac:=ac.a (G.drew _);have aa:=aa.a (G.drew _);refine As U (As U (Dn Ps U U O af.1 (AF V1 U (AL DU U ((af.2.a (G.drew _)).one (i:=0) U) (AF E6 U (AL DU U (E.g4.j U) (Mb U U (Al (kq (CB U (fun h3=>?_) (fun h3=>?_)))))))))));rw [h3,A8] at hF;refine Ao (Ay (As U (As U (Dn Ps U U O af.1 (AF UA U (CH Ci U U ((af.2.a (G.drew _)).part 1 2) (AF Fl U (CZ U E0 (H U) (H U) U U E.g2 U U ?_))))))));intro ax ae _ BS;have C6:=E.g2;replace E:=E.s2 ae BS;have g:=CC g ae O;have h:=h.A ae C6 rfl O;have aa:=aa.A ae BI;refine AR fun _ ga Ca g E h=>?_;have aa:=AM aa;refine AC ?_
 have e:Ew F t (Fz F t) S=((AJ t [((Ah F (V t 0)).ex S).1] (Gf F ((Ah F (V t 0)).ex S).1.ty.name).1[i].ty,true),((Ah F (V t 0)).ex S).2):=by
  unfold Ew;show (bif Ae (((Ah F (V t 0)).ex S).1.ty.c=4) then _ else _)=_;rw [hq,A8];show (match (Gf F ((Ah F (V t 0)).ex S).1.ty.name).1.find? (fun f=>Ae (f.name=t.i)) with|some f=>_|none=>_)=_;rw [hF];rfl
 rw [e];exact ⟨⟨_,rfl,BR (t:=AJ t [_] _) rfl (D9 (ks:=[_]) ⟨ag,DK E.E⟩ E.E.row (Dh (aa.Y (AN _))) (AN _))⟩,h.ah,g⟩;rw [h3,A0] at hF;refine R ?_;refine BL [10,0,3,4,6,8] ?_;refine Al (fun a ha=>?_);exact ⟨i+1,ha,⟨⟨h2,hF,h,ac,aa⟩,ad⟩,O⟩;have h2:i=(Gf F ((Ah F (V t 0)).ex S).1.ty.name).1.length:=by simp only [CK] at h2;omega
 subst h2;rw [List.drop_length] at hF;refine R ?_;refine AK (F5 t.m 5 h.ah) ?_;rintro _ _ ⟨rfl,h,ga⟩;refine AY fun g E=>?_;have ad:=ad.trans ga;have aa:=DP aa;refine AR fun _ ga Ca g E h=>?_;have aa:=AM aa;refine AC ?_
 have e:Ew F t (Fz F t) S=((AJ t [((Ah F (V t 0)).ex S).1] AA,false),DI t.m 5 ((Ah F (V t 0)).ex S).2):=by
  unfold Ew;show (bif Ae (((Ah F (V t 0)).ex S).1.ty.c=4) then _ else _)=_;rw [hq,A8];show (match (Gf F ((Ah F (V t 0)).ex S).1.ty.name).1.find? (fun f=>Ae (f.name=t.i)) with|some f=>_|none=>_)=_;rw [hF];rfl
 rw [e];exact ⟨⟨_,rfl,BR (t:=AJ t [_] AA) rfl (D9 (ks:=[_]) ⟨ag,DK E.E⟩ E.E.row (Dh (aa.Y (AN _))) (AN _))⟩,h,g⟩
set_option maxHeartbeats 2000000
theorem Nj.to{F t:Nd}(C':Nj F t){n0 b:Nat}{S:An}{w:Ad}{v:Bd}{N m0:Nat}(Z:List Nat)(h:D4 F n0 b S w)(hk:Bo w (fun k=>k<n0) t.b v)(hb:EQ S N)(hc:N+count t≤1000000)(hZ:∀ j∈Z,j<w.heap.size)(hm:m0≤w.heap.size) :
 Bx Aj 106 #[.pointer (some ⟨b,0,none⟩),BV t v] w fun r w'=>(∃ p c,r = .tuple #[BV ((Ah F t).w S).1.1 (.slice p ((Ah F t).w S).1.1.b.length c),.bool ((Ah F t).w S).1.2]∧m0≤w.heap.size∧EP w.heap.size Z w' ((Ah F t).w S).1.1.b (.slice p ((Ah F t).w S).1.1.b.length c))∧D4 F n0 b ((Ah F t).w S).2 w'∧AP DQ n0 w w' :=
 (C' h hk hb hc).mono fun r w' hr=>by
 obtain ⟨⟨u,e,p,c,e2,k⟩,h1,h2⟩:=hr;subst e2;exact ⟨⟨p,c,e,hm,FN.x k hZ⟩,h1,h2⟩
theorem xH(F:Nd)(S:An)(t:Nd):(CE F S t).1.b=[]:=by
 unfold CE
 cases Fc S.q t.i with
 | some v=>rfl
 | none =>
  dsimp only;cases Ae (0≤(Bk F 6 t.i).2);cases Ae (0≤(Bk F 4 t.i).2) <;> rfl
  rfl
theorem Qf{F:Nd}{S:An}{t:Nd}(lo:Nat)(w:Ad):FN lo w (CE F S t).1.b (.slice none 0 0):=by rw [xH];exact Iz _ _
theorem iK{F t:Nd}(C':KQ F)(H':∀ i,i<t.b.length→KD F (V t i))(HC:t.c=30→Dy F 104 t (I3 t (Ax F t)))(hx:Cg t=true):Dy F 86 t (Ah F t).ex:=by
 intro n0 b S w v N h aa hb al;have aw:(Ah F t).ex S=Ek F t (Ax F t) S:=by rw [GL];rfl
 rw [aw];obtain ⟨p,c,rfl,_⟩:=id aa;have be:=h.lt;have ct:=JJ t;have g:=AP.refl DQ n0 w;refine Cj 110 [0,1] Tryz.func86 ?_;refine CN fun b3 _ ga _ g E=>?_;have h:=Ar h;have aa:=Ar aa;refine A1 fun b4 _ ga _ g E=>?_;have h:=Ar h;have aa:=Ar aa;refine R ?_;refine AK (H9 t _ _ _) ?_;rintro _ _ ⟨rfl,ga⟩;refine AY fun g E=>?_;have h:=AO h;have aa:=AO aa;refine A1 fun b5 _ ga _ g E=>?_;have h:=Ar h;have aa:=Ar aa;refine AR fun _ ga Ca g E h=>?_;have aa:=Cq aa;refine Az (fun h1=>?_) fun h1=>?_;have h1:t.c=24:=AV h1;refine AR fun _ ga Ca g E h=>?_;refine AR fun _ ga Ca g E h=>?_;refine AC ?_;have e:Ek F t (Ax F t) S=(AJ t [] tInt,S):=by unfold Ek;rw [BW h1];rfl
 rw [e];exact ⟨BR (t:=AJ t [] tInt) rfl (Iz _ _),h,g⟩;have h1:t.c≠24:=CM h1;refine Az (fun h2=>?_) fun h2=>?_;have h2:t.c=25:=AV h2;refine AR fun _ ga Ca g E h=>?_;refine AR fun _ ga Ca g E h=>?_;refine AC ?_;have e:Ek F t (Ax F t) S=(AJ t [] tBool,S):=by unfold Ek;rw [Aq h1,BW h2];rfl
 rw [e];exact ⟨BR (t:=AJ t [] tBool) rfl (Iz _ _),h,g⟩;have h2:t.c≠25:=CM h2;refine Az (fun h3=>?_) fun h3=>?_;have h3:t.c=26:=AV h3;refine AR fun _ ga Ca g E h=>?_;refine AR fun _ ga Ca g E h=>?_;refine AC ?_;have e:Ek F t (Ax F t) S=(AJ t [] tNil,S):=by unfold Ek;rw [Aq h1,Aq h2,BW h3];rfl
 rw [e];exact ⟨BR (t:=AJ t [] tNil) rfl (Iz _ _),h,g⟩;have h3:t.c≠26:=CM h3;refine Az (fun h4=>?_) fun h4=>?_;have h4:t.c=38:=AV h4;refine R ?_;refine AK (Dy.to (rC H' h4 hx) [b3,b4,b5] h aa hb al (E.O Bq) g.size) ?_;rintro _ _ ⟨⟨a6,a8,rfl,ay,an⟩,h,ga⟩;refine AY fun g E=>?_;refine AR fun _ ga Ca g E h=>?_;have an:=AM an;refine AC ?_;have hl:=(Sy h4 hx).1
 have e:Ek F t (Ax F t) S=NP t (Fz F t) S:=by
  unfold Ek;rw [Aq h1,Aq h2,Aq h3,BW h4];show NP t (Ax F t) S=_;unfold NP;rw [Dz (show 0<t.b.length by omega)];rfl
 rw [e];exact ⟨BR rfl (an.Y ay),h,g⟩;have h4:t.c≠38:=CM h4;refine Az (fun h5=>?_) fun h5=>?_;have h5:t.c=30:=AV h5;refine R ?_;refine AK (Dy.to (HC h5) [b3,b4,b5] h aa hb al (E.O Bq) g.size) ?_;rintro _ _ ⟨⟨bc,ba,rfl,az,ao⟩,h,ga⟩;refine AY fun g E=>?_;refine AR fun _ ga Ca g E h=>?_;have ao:=AM ao;refine AC ?_;have e:Ek F t (Ax F t) S=I3 t (Ax F t) S:=by unfold Ek;rw [Aq h1,Aq h2,Aq h3,Aq h4,BW h5];rfl
 rw [e];exact ⟨BR rfl (ao.Y az),h,g⟩;have h5:t.c≠30:=CM h5;refine Az (fun h6=>?_) fun h6=>?_;have h6:t.c=27:=AV h6;refine R ?_;refine AK (Wh C' t _ _ h hb O) ?_;rintro _ _ ⟨rfl,ga⟩;refine AY fun g E=>?_;have h:=AO h;refine A1 fun _ _ ga _ g E=>?_;have h:=Ar h;refine AR fun _ ga Ca g E h=>?_;refine Az (fun h7=>?_) fun h7=>?_;have hr:(CE F S t).2=false:=by simpa using h7
 refine R ?_;refine AK (F5 t.m 5 h) ?_;rintro _ _ ⟨rfl,h,ga⟩;refine AY fun g E=>?_;refine AR fun _ ga Ca g E h=>?_;refine AC ?_
 have e:Ek F t (Ax F t) S=((CE F S t).1,DI t.m 5 S):=by
  unfold Ek;rw [Aq h1,Aq h2,Aq h3,Aq h4,Aq h5,BW h6];show ((CE F S t).1,bif (CE F S t).2 then AH (E7 (CE F S t).1.ty) t.m 7 S else DI t.m 5 S)=_;rw [hr];rfl
 rw [e];exact ⟨BR (t:=(CE F S t).1) rfl (Qf _ _),h,g⟩;have hr:(CE F S t).2=true:=by simpa using h7
 refine R ?_;refine DA (Ql _ _) (fun bg am=>?_);have g:=Cc g am;replace E:=E.a am;have h:=h.a (am);refine Az (fun h8=>?_) fun h8=>?_;have hv:E7 (CE F S t).1.ty=false:=by simpa using h8
 refine R ?_;refine AK (F5 t.m 7 h) ?_;rintro _ _ ⟨rfl,h,ga⟩;refine AY fun g E=>?_;refine AR fun _ ga Ca g E h=>?_;refine AC ?_
 have e:Ek F t (Ax F t) S=((CE F S t).1,DI t.m 7 S):=by
  unfold Ek;rw [Aq h1,Aq h2,Aq h3,Aq h4,Aq h5,BW h6];show ((CE F S t).1,bif (CE F S t).2 then AH (E7 (CE F S t).1.ty) t.m 7 S else DI t.m 5 S)=_;rw [hr,hv];rfl
 rw [e];exact ⟨BR (t:=(CE F S t).1) rfl (Qf _ _),h,g⟩;have hv:E7 (CE F S t).1.ty=true:=by simpa using h8
 refine AR fun _ ga Ca g E h=>?_;refine AC ?_
 have e:Ek F t (Ax F t) S=((CE F S t).1,S):=by
  unfold Ek;rw [Aq h1,Aq h2,Aq h3,Aq h4,Aq h5,BW h6];show ((CE F S t).1,bif (CE F S t).2 then AH (E7 (CE F S t).1.ty) t.m 7 S else DI t.m 5 S)=_;rw [hr,hv];rfl
 rw [e];exact ⟨BR (t:=(CE F S t).1) rfl (Qf _ _),h,g⟩;have h6:t.c≠27:=CM h6;refine Az (fun h9=>?_) fun h9=>?_;have h9:t.c=28:=AV h9;refine R ?_;refine AK (Nj.to (XF H' h9 hx) [b3,b4,b5] h aa hb al (E.O Bq) g.size) ?_;rintro _ _ ⟨⟨a7,bf,rfl,ap,ad⟩,h,ga⟩;refine AY fun g E=>?_;refine A1 fun _ _ ga _ g E=>?_;have ad:=Bp ad;have h:=Ar h;refine AR fun _ ga Ca g E h=>?_;have ad:=AM ad;refine R ?_;refine F4 (fun hc=>Ql _ _) (fun a9 aj=>?_);have g:=Cc g aj;replace E:=E.a aj;have h:=h.a (aj);have ad:=ad.a (aj);refine Az (fun ak=>?_) fun ak=>?_;(try simp only [BJ] at ak);refine R ?_;refine AK (F5 t.m 7 h) ?_;rintro _ _ ⟨rfl,h,ga⟩;refine AY fun g E=>?_;have ad:=DP ad;refine AR fun _ ga Ca g E h=>?_;have ad:=AM ad;refine AC ?_
 have e:Ek F t (Ax F t) S=(((Ah F t).w S).1.1,AH (!(((Ah F t).w S).1.2 && !E7 ((Ah F t).w S).1.1.ty)) t.m 7 ((Ah F t).w S).2):=by
  have em:((Ah F t).w S)=Ew F t (Ax F t) S:=by rw [GL];rfl
  rw [em];unfold Ek;rw [Aq h1,Aq h2,Aq h3,Aq h4,Aq h5,Aq h6,BW h9];rfl
 rw [e,ak];exact ⟨BR rfl (ad.Y ap),h,g⟩;refine AR fun _ ga Ca g E h=>?_;have ad:=AM ad;refine AC ?_
 have e:Ek F t (Ax F t) S=(((Ah F t).w S).1.1,AH (!(((Ah F t).w S).1.2 && !E7 ((Ah F t).w S).1.1.ty)) t.m 7 ((Ah F t).w S).2):=by
  have em:((Ah F t).w S)=Ew F t (Ax F t) S:=by rw [GL];rfl
  rw [em];unfold Ek;rw [Aq h1,Aq h2,Aq h3,Aq h4,Aq h5,Aq h6,BW h9];rfl
 rw [e,ak];exact ⟨BR rfl (ad.Y ap),h,g⟩;have h9:t.c≠28:=CM h9;refine Az (fun ae=>?_) fun ae=>?_;have ae:t.c=34:=AV ae;obtain ⟨fv,sv,sn,h⟩:=h;refine R ?_;refine DE (Ef none) [3,3,3,0,3,0,1,3,3,3,1,2,3] [0,1,3,7,0,16,63,127,255,255,0,1535,4095] CI Ai [0,1,2,3,4,5,6,7,8,9,10,11,12] U ?_;refine Db fun g E h=>?_;refine Au 0 U U (fun _=>A9 (H U)) (Au 1 U U (fun _=>F8 (H U)) (Au 2 U U (fun _=>AE Ou (H U)) (Bg 3 U U (fun w1 hx=>A2 A3 (H U) U (fun _=>(h.B.A hx (by intro q;first|(injection q with q;omega)|cases q)).row.part 0 9)) (Au 4 U U (fun _=>AE E6 (H U)) (Bg 5 U U (fun w1 hx=>AU DU (H U) (fun _=>(E.g2.A hx DC).j U)) (KM 6 10 U U ?_ ?_))))));refine Br (L':=[7,8,9,10,11,12]) [3,3,3,0,3,0,1,3,3,3,1,2,3] rfl rfl rfl ?_;refine AK (Lk F fv _ _ 2 t.i h.kF h.hF) ?_;rintro ax a0 ⟨⟨a2,a1,rfl,ar⟩,af⟩;refine ⟨fun _=>af,?_⟩;have g:=Cc g af;replace E:=E.a af;have h:=h.a (af);refine Bs ((af).I _) ?_;refine Au 7 U U (fun _=>A9 (H U)) (Au 8 U U (fun _=>FW (H U) U) (Au 9 U U (fun _=>FW (H U) U) (AQ 10 U U ?_)));refine Br (L':=[11,12]) [3,3,3,0,3,0,1,3,3,3,1,2,3] U U U ?_;refine A1 fun _ _ ah a5 g E=>?_;have h:=h.a (ah.g);refine Bs ((ah.g).I _) ?_;refine AQ 11 U U ?_;refine Ds (L':=[12]) [3,3,3,0,3,0,1,3,3,3,1,2,3] U U U U ?_;refine AR fun _ ga Ca g E h=>?_;refine Dr ?_
 refine Au 12 U U (fun _=>Eu (H U)) (Dp [0,3,4,5,11] (FF (kq (Ao (Ay (As U (G2 U U (Al (kq (CB U (fun ag=>?_) (fun ag=>?_)))))))))));have hr:Ae ((Bk F 2 t.i).2<0)=true:=by simpa using ag
 refine Ay (As U (AF HY U (AL Cd U (E.g3.j U) (AK (F5 t.m 5 h.ah) ?_))));rintro _ _ ⟨rfl,h,ga⟩;refine AY fun g E=>?_;refine Al (kq (Ao (Ay (AF E6 U (AL DU U (E.g3.j U) (Gi Fw HW (A5 U (A5 U Cz)) U U (AF Fl U (CZ U E0 (H U) (H U) U U E.Q U U ?_))))))));intro au ab _ BS;have C5:=E.Q;replace E:=E.s1 ab BS;have g:=CC g ab O;have h:=h.A ab C5 rfl O;refine AR fun _ ga Ca g E h=>?_;refine Al (kq (DZ (Mf U (HQ U A3 U (E.g2.row) (HP)) ?_)))
 have e:Ek F t (Ax F t) S=(AJ t [] ⟨4,t.i⟩,DI t.m 5 S):=by
  unfold Ek;rw [Aq h1,Aq h2,Aq h3,Aq h4,Aq h5,Aq h6,Aq h9,BW ae];show (AJ t [] ⟨4,t.i⟩,AH (!Ae ((Bk F 2 t.i).2<0)) t.m 5 S)=_;rw [hr];rfl
 rw [e];exact ⟨BR (t:=AJ t [] ⟨4,t.i⟩) rfl (Iz _ _),h,g⟩;have hr:Ae ((Bk F 2 t.i).2<0)=false:=by simpa using ag
 refine CU (kq (Ao (Ay (AF E6 U (AL DU U (E.g3.j U) (Gi Fw HW (A5 U (A5 U Cz)) U U (AF Fl U (CZ U E0 (H U) (H U) U U E.Q U U ?_))))))));intro av ac _ BS;have C5:=E.Q;replace E:=E.s1 ac BS;have g:=CC g ac O;have h:=h.A ac C5 rfl O;refine AR fun _ ga Ca g E h=>?_;refine AC ?_
 have e:Ek F t (Ax F t) S=(AJ t [] ⟨4,t.i⟩,S):=by
  unfold Ek;rw [Aq h1,Aq h2,Aq h3,Aq h4,Aq h5,Aq h6,Aq h9,BW ae];show (AJ t [] ⟨4,t.i⟩,AH (!Ae ((Bk F 2 t.i).2<0)) t.m 5 S)=_;rw [hr];rfl
 rw [e];exact ⟨BR (t:=AJ t [] ⟨4,t.i⟩) rfl (Iz _ _),h.ah,g⟩;refine Br (L':=[6,7,8,9,11,12]) [3,3,3,0,3,0,1,3,3,3,1,2,3] rfl rfl rfl ?_;refine A1 fun _ _ ah _ g E=>?_;have h:=h.a (ah.g);refine Bs ((ah.g).I _) ?_;refine AQ 6 U U ?_;refine Br (L':=[7,8,9,11,12]) [3,3,3,0,3,0,1,3,3,3,1,2,3] U U U ?_;refine AK (Lk F fv _ _ 2 t.i h.kF h.hF) ?_;rintro ax a0 ⟨⟨a2,a1,rfl,ar⟩,af⟩;refine ⟨fun _=>af,?_⟩;have g:=Cc g af;replace E:=E.a af;have h:=h.a (af);refine Bs ((af).I _) ?_;refine Au 7 U U (fun _=>A9 (H U)) (Au 8 U U (fun _=>FW (H U) U) (Au 9 U U (fun _=>FW (H U) U) (AQ 11 U U ?_)));refine Ds (L':=[12]) [3,3,3,0,3,0,1,3,3,3,1,2,3] U U U U ?_;refine AR fun _ ga Ca g E h=>?_;refine Dr ?_;refine Au 12 U U (fun _=>Eu (H U)) (Dp [0,3,4,5,11] (FF (kq (Ao (Ay (As U (G2 U U (Al (kq (CB U (fun ag=>?_) (fun ag=>?_)))))))))));have hr:Ae ((Bk F 2 t.i).2<0)=true:=by simpa using ag
 refine Ay (As U (AF HY U (AL Cd U (E.g3.j U) (AK (F5 t.m 5 h.ah) ?_))));rintro _ _ ⟨rfl,h,ga⟩;refine AY fun g E=>?_;refine Al (kq (Ao (Ay (AF E6 U (AL DU U (E.g3.j U) (Gi Fw HW (A5 U (A5 U Cz)) U U (AF Fl U (CZ U E0 (H U) (H U) U U E.Q U U ?_))))))));intro au ab _ BS;have C5:=E.Q;replace E:=E.s1 ab BS;have g:=CC g ab O;have h:=h.A ab C5 rfl O;refine AR fun _ ga Ca g E h=>?_;refine Al (kq (DZ (Mf U (HQ U A3 U (E.g2.row) (HP)) ?_)))
 have e:Ek F t (Ax F t) S=(AJ t [] ⟨4,t.i⟩,DI t.m 5 S):=by
  unfold Ek;rw [Aq h1,Aq h2,Aq h3,Aq h4,Aq h5,Aq h6,Aq h9,BW ae];show (AJ t [] ⟨4,t.i⟩,AH (!Ae ((Bk F 2 t.i).2<0)) t.m 5 S)=_;rw [hr];rfl
 rw [e];exact ⟨BR (t:=AJ t [] ⟨4,t.i⟩) rfl (Iz _ _),h,g⟩;have hr:Ae ((Bk F 2 t.i).2<0)=false:=by simpa using ag
 refine CU (kq (Ao (Ay (AF E6 U (AL DU U (E.g3.j U) (Gi Fw HW (A5 U (A5 U Cz)) U U (AF Fl U (CZ U E0 (H U) (H U) U U E.Q U U ?_))))))));intro av ac _ BS;have C5:=E.Q;replace E:=E.s1 ac BS;have g:=CC g ac O;have h:=h.A ac C5 rfl O;refine AR fun _ ga Ca g E h=>?_;refine AC ?_
 have e:Ek F t (Ax F t) S=(AJ t [] ⟨4,t.i⟩,S):=by
  unfold Ek;rw [Aq h1,Aq h2,Aq h3,Aq h4,Aq h5,Aq h6,Aq h9,BW ae];show (AJ t [] ⟨4,t.i⟩,AH (!Ae ((Bk F 2 t.i).2<0)) t.m 5 S)=_;rw [hr];rfl
 rw [e];exact ⟨BR (t:=AJ t [] ⟨4,t.i⟩) rfl (Iz _ _),h.ah,g⟩;have ae:t.c≠34:=CM ae;refine R ?_;refine AK (Dy.to (uA H' hx ⟨h1,h2,h3,h6,ae,h9,h5,h4⟩) [b3,b4,b5] h aa hb al (E.O Bq) g.size) ?_;rintro _ _ ⟨⟨a3,a4,rfl,aq,ai⟩,h,ga⟩;refine AY fun g E=>?_;refine AR fun _ ga Ca g E h=>?_;have ai:=AM ai;refine AC ?_;have hl:=(aL hx ⟨h1,h2,h3,h6,ae,h9,h5,h4⟩).1
 have e:Ek F t (Ax F t) S=FC t (Fz F t) S:=by
  have e0:Ek F t (Ax F t) S=FC t (Ax F t) S:=by unfold Ek;rw [Aq h1,Aq h2,Aq h3,Aq h4,Aq h5,Aq h6,Aq h9,Aq ae];rfl
  rw [e0];unfold FC;rw [Dz (show 0<t.b.length by omega)];by_cases k29:t.c=29;have:=(Te k29 hx).1;rw [Dz (show 1<t.b.length by omega)];rfl;by_cases k32:t.c=32;have:=(Sd k32 hx).2.1;rw [Dz (show 1<t.b.length by omega)];rfl;rw [Aq k29,Aq k32];rfl
 rw [e];exact ⟨BR rfl (ai.Y aq),h,g⟩
def ML(w:Ad)(b:Nat)(e:Aw)(l:List UInt8):Prop:=∃ cs lo hi,w.heap[b]? = some (.cells cs e (lo,hi))∧(∀ (j:Nat) (v:Bd),(Lib.byteCells l)[j]? = some v→cs[j]? = some v)∧(hi=0∨l.length≤lo)
theorem ML.row{w:Ad}{b:Nat}{e:Aw}{l:List UInt8}(h:ML w b e l):Cv w b 0 (Lib.byteCells l):=by
 obtain ⟨cs,lo,hi,hb,hc,_⟩:=h;intro j v hj;rw [HZ];simp [World.cell?,hb,hc j v hj]
theorem ML.lt{w:Ad}{b:Nat}{e:Aw}{l:List UInt8}(h:ML w b e l):b<w.heap.size:=by
 obtain ⟨cs,lo,hi,hb,_⟩:=h;exact (Array.getElem?_eq_some_iff.mp hb).1
theorem ML.A{w w1:Ad}{b:Nat}{e:Aw}{l:List UInt8}{row:Option Nat}(h:ML w b e l)(hg:w.grownBy w1 row)(ab:some b≠row):ML w1 b e l:=by
 have aa:=h.lt;obtain ⟨cs,lo,hi,hb,hc,hf⟩:=h;exact ⟨cs,lo,hi,by obtain ⟨_,_,_,_,ho⟩:=hg;rw [ho b aa ab];exact hb,hc,hf⟩
theorem ML.a{w w1:Ad}{b:Nat}{e:Aw}{l:List UInt8}(h:ML w b e l)(hg:G w w1):ML w1 b e l:=h.A (hg.I none) (by intro e;cases e)
section
variable {P:Program} {n:Nat} {σ:List Ce} {c:Prop} {wb:Ad} {ty:Aw}
end
section
variable {P:Program} {Z:List PanicEntry→Act→Ad→Prop} {ops:List Oper} {cl:List Nat} {lv:List Bool} {W0:Ad} {n:Nat} {H':Act→Ad→Prop} {k:Nat} {rest:List Oper} {σ:List Ce} {w:Ad} {d:Nat} {ty:Aw} {pos:String} {after:Array Edge}
theorem SC{t e z ab:Nat}(hb:(!BM (Bw cl k) 0 && !BM (Bw cl k) 3&&Nat.blt d n)=true)(ht:FQ P t=some (e,z,ab))
 (h:∀ b w1,b=w.heap.size→(∀ base,base≤w.heap.size→w1.ownsRow base e z (.slice (some ⟨b,0,none⟩) 0 0) 0 [])→G w w1→Bv P Z ops cl lv W0 n H' (k+1) rest ((d,True,.slice (some ⟨b,0,none⟩) 0 0) :: σ) w1) :
 Bv P Z ops cl lv W0 n H' k (⟨some d,.buildSlice t 0 #[],ty,pos,after,none⟩::rest) σ w:=by
 obtain ⟨hu,i,hi,ae,ad⟩:=JV ht;have hN:=MJ w e [];refine Np hb (w':=w.alloc (.cells #[] e)) (fun d pos after g a ha _=>?_) (fun _=>hN.g) (h _ _ U (fun base aa=>World.ownsRow_lit w #[] 0 aa (Cr _) BI) hN.g);have ac:Array.range 0 = #[]:=by decide
 simp [execOp,Instr.buildSlice,run_underlying hu,Pj hi,Instr.fill,newRow,ac]
theorem Uh{t e z aa m q cp b:Nat}{x y:Operand}{o:Option Addr}(hb:(BM (Bw cl k) 2&&Nat.blt d n)=true)(ht:FQ P t=some (e,z,aa))(hx:Bz n σ True x (.slice (some ⟨b,0,none⟩) m cp))(hm:m≤cp)(hy:Bz n σ True y (.slice o 0 q))
 (h:Bv P Z ops cl lv W0 n H' (k+1) rest ((d,True,.slice (some ⟨b,0,none⟩) m cp) :: σ) w) :
 Bv P Z ops cl lv W0 n H' k (⟨some d,.call { callee:=.builtin .append,args:=#[x,y],argTypes:=#[t,t] },ty,pos,after,none⟩::rest) σ w:=by
 obtain ⟨hu,i,hi,ac,ab⟩:=JV ht;simp only [Ap] at hb;have hc:=Ke hb.1;refine Np (w':=w) (by rw [hc,hb.2];rfl) (fun d pos after g a ha _=>?_) (fun hh=>O) h
 have hr:(Builtin.append_ #[t,t] ty #[.slice (some ⟨b,0,none⟩) m cp,.slice o 0 q]).run P w = .ok (.slice (some ⟨b,0,none⟩) m cp) w:=by
  cases o <;> simp [Builtin.append_,run_underlying hu,Pj hi,Builtin.lenOf,Builtin.firstCells,hm,loadCells,loadCellsFrom,storeCells]
 simp only [execOp,resolve,invoke,builtin,Sem.run_bind,Sem.run_pure,A7,List.map_toArray,List.map_cons,List.map_nil,hx a ha BN,hy a ha BN,hr]
theorem Vr(w:Ad)(row:Option Nat):w.grownBy w row:=(G.refl w).I row
theorem V7{t e z ab base m q q' cp b:Nat}{x y:Operand}{zv:Bd}{xs news:List Bd}{o:Option Addr}(hb:(BM (Bw cl k) 2&&Nat.blt d n)=true)(ht:FQ P t=some (e,z,ab))(ap:Gc P e=some zv)
 (ah:zv.cells.size=z) (am:0<z) (hx:Bz n σ True x (.slice (some ⟨b,0,none⟩) m cp)) (aa:w.ownsRow base e z (.slice (some ⟨b,0,none⟩) m cp) m xs) (hy:Bz n σ True y (.slice o q q')) (hl:news.length=q*z) (hn:0<q→∃ b' o',o=some ⟨b',o',none⟩∧Cv w b' o' news) (h1:∀ u∈news,u.oneCell'=true)
 (aj:m+q≤maxLen) (ai:(m+q)*ab≤140737488355328) (ac:base≤w.heap.size)
 (h:∀ a' c' w',w'.ownsRow base e z (.slice a' (m+q) c') (m+q) (xs++news)→w.grownBy w' (BH (some ⟨b,0,none⟩) m cp).ownBlock→Bv P Z ops cl lv W0 n H' (k+1) rest ((d,True,.slice a' (m+q) c') :: σ) w') :
 Bv P Z ops cl lv W0 n H' k (⟨some d,.call { callee:=.builtin .append,args:=#[x,y],argTypes:=#[t,t] },ty,pos,after,none⟩::rest) σ w:=by
 rcases Nat.eq_zero_or_pos q with h0|h0;subst h0;have ae:news=[]:=List.eq_nil_of_length_eq_zero (by simpa using hl);subst ae;obtain ⟨a,c,hv,ao⟩:=Im aa;injection hv with _ _ hv;subst hv;refine Uh hb ht hx ao hy ?_;exact h _ _ w (by simpa using aa) (Vr w _);obtain ⟨b',o',rfl,hr⟩:=hn h0;obtain ⟨hu,i,hi,ag,ad⟩:=JV ht;obtain ⟨i',ak,af⟩:=Ox ap;obtain rfl:i=i':=EM (hi.symm.trans ak);simp only [Ap] at hb;have hc:=Ke hb.1;obtain ⟨s',w',r1,r2,r3,_⟩:=run_append_own (P:=P) w base t ty e i zv z ab hu hi af ag ad ah am _ m xs aa ⟨b',o',none⟩ q q' news hl (fun j u hj=>by rw [Addr.add_lit];exact hr j u hj) h1 aj ai ac
 obtain ⟨a',c',al⟩:∃ a' c',s' = .slice a' (m+q) c':=by
  rcases r2.2 with ⟨q1,q2⟩|⟨g,an,aq,q1,_⟩;exact ⟨none,0,by rw [q1,q2]⟩;exact ⟨_,an,q1⟩
 subst al;refine Np (w':=w') (by rw [hc,hb.2];rfl) (fun d pos after g a ha _=>?_) (fun hh=>O) (h a' c' w' r2 r3);simp only [execOp,resolve,invoke,builtin,Sem.run_bind,Sem.run_pure,A7,List.map_toArray,List.map_cons,List.map_nil,hx a ha BN,hy a ha BN,r1]
end
set_option maxHeartbeats 2000000
theorem jD(l:List DD):∀ u∈l.flatMap JB,u.oneCell'=true:=fun u hu=>by
 obtain ⟨v,_,hv⟩:=List.mem_flatMap.1 hu;exact F9.1 (show (JB v).all (·.oneCell')=true from rfl) u hv
theorem nG(l:List Nat):∀ u∈l.map (fun (k:Nat)=>Value.int .i64 (k:Int)),u.oneCell'=true:=fun u hu=>by
 obtain ⟨k,_,rfl⟩:=List.mem_map.1 hu;rfl
theorem rQ{F t:Nd}(C':KQ F)(HM:t.c=28→Nj F t):Qn F t:=by
 intro n0 b S w v N h az hb br;have Hi:(Ah F t).rcv S=Hp F t (Ax F t) S:=by rw [GL];rfl
 have em:(Ah F t).w S=Ew F t (Ax F t) S:=by rw [GL];rfl
 rw [Hi];obtain ⟨p,c,rfl,_⟩:=id az;have c6:=h.lt;have ct:=JJ t;have c0:=hb.vl;have cq:=hb.nl;obtain ⟨fv,sv,sn,h⟩:=h;obtain ⟨pv,cv,rfl,cb,cr⟩:=SF h.ov;obtain ⟨an,cn,rfl,bq⟩:=Im h.on;obtain ⟨pf,cf,rfl,_⟩:=id h.kF
 have bi:0<S.q.length→∃ b o,pv=some ⟨b,o,none⟩∧Cv w b o (S.q.flatMap JB):=fun h0=>by
  obtain ⟨g,c',hv,_,hR,_⟩:=Ly h.ov h0;injection hv with e1 _ _;exact ⟨g,0,e1,hR⟩
 have bj:0<S.next.length→∃ b o,an=some ⟨b,o,none⟩∧Cv w b o (S.next.map fun (k:Nat)=>Value.int .i64 (k:Int)):=fun h0=>by
  obtain ⟨g,c',hv,_,hR,_⟩:=Ly h.on h0;injection hv with e1 _ _;exact ⟨g,0,e1,hR⟩
 have g:=G.refl w;refine JW (m:=72) Tryz.func140 U U [(0,True,_),(1,True,_)] (K U (K U (Bm _))) ?_;refine KR fun K1 bf=>?_;refine JZ [1,1,3] ?_;refine Ja U (H U) U ?_;intro b3 w3 N3;have l3:=N3.ge g;have g:=g.trans N3.g;have B3:=N3.p;refine EI U Ck U ?_;intro b4 w4 N4;have cg:=N4.W B3;have l4:=N4.ge g;have g:=g.trans N4.g;replace B3:=B3.a (N4.g);have B4:=N4.p;refine AG U (fun _=>Eu Bl) ?_;refine FD [(0,_,_),(3,_,_),(4,_,_),(5,_,_)] (K U (K U (K U (K U (Bm _))))) ?_;refine Al (bf _ _ ?_);refine KR fun K2 bg=>?_;refine KR fun K3 bm=>?_;refine JZ [3,0,3] ?_;refine AG U (fun _=>AE FK (H U)) ?_;refine Ep U (AU Cd (H U) (fun _=>B3.j U)) ?_;refine AG U (fun _=>GA (H U) Bl) ?_;refine FD [(0,_,_),(3,_,_),(4,_,_),(5,_,_),(13,_,_)] (K U (K U (K U (K U (K U (Bm _)))))) ?_;refine Al (bm _ _ ?_);refine TM (H U) (fun h1=>?_) (fun h1=>?_);have h1:t.c=27:=AV h1;refine KR fun K4 bo=>?_;refine JZ [3,0,2,3,3,3,1,2,3] ?_;refine AG U (fun _=>A9 (H U)) ?_;refine Ep U (A2 A3 (H U) U (fun _=>B3.row)) ?_;refine Fg U (BK pZ Cf (Cu (H U) (Cu (H U) (CY))) U) (Wh C' t _ _ (h.a g).ah hb O) ?_;rintro c8 cw ⟨rfl,au⟩;refine ER au fun g=>?_;replace B3:=B3.a (au);replace B4:=B4.a (au);refine AG U (fun _=>A9 (H U)) ?_;refine AG U (fun _=>FW (H U) U) ?_;refine AG U (fun _=>FW (H U) U) ?_;refine EI U Ck U ?_;intro b6 w6 N6;have b5:=N6.W B3;have bt:=N6.W B4;have l6:=N6.ge g;have g:=g.trans N6.g;replace B3:=B3.a (N6.g);replace B4:=B4.a (N6.g);have B6:=N6.p
 refine Hb U FH (H U) (H U) U U B6 U U ?_;intro c7 ao ci;clear B6;intro B6;replace B3:=CL B3 ao;replace B4:=CL B4 ao;have g:=CO g ao O;refine AG U (fun _=>Eu (H U)) ?_;refine FD [(0,_,_),(3,_,_),(4,_,_),(5,_,_),(6,_,_),(7,_,_)] (K U (K U (K U (K U (K U (K U (Bm _))))))) ?_;refine Al (bo _ _ ?_);refine KR fun K5 bk=>?_;refine DE (Ef (some b4)) [0,3,3,3,0,3,3,3,3,3,0,3,3,1,3] [0,0,2,6,14,30,62,126,254,510,1022,2046,4094,255,16383] CI Ai [0,1,2,3,4,5,6,7,8,9,10,11,12,13,14] U ?_;have g:=Ho g;replace B3:=B3.a (G.drew _);replace B4:=B4.a (G.drew _);replace B6:=B6.a (G.drew _);refine LB (L':=[1,2,3,4,5,6,7,8,9,10,11,12,13,14]) 0 U U U (fun w1 hx=>A2 A3 (H U) U (fun _=>(B6.A hx (by intro h;first|(injection h with h;omega)|cases h)).row)) ?_;refine GO (L':=[2,3,4,5,6,7,8,9,10,11,12,13,14]) 1 U U U (fun _=>A9 (H U)) ?_;refine GO (L':=[3,4,5,6,7,8,9,10,11,12,13,14]) 2 U U U (fun _=>A9 (H U)) ?_;refine GD (L':=[4,5,6,7,8,9,10,11,12,13,14]) 3 U U U U U (fun _=>AE O7 (H U)) ?_;refine JP (L':=[5,6,7,8,9,10,11,12,13,14]) 4 U U U U U (fun w1 hx=>AU Cd (Am U id) (fun _=>(B6.A hx (by intro h;first|(injection h with h;omega)|cases h)).j U)) ?_;refine GD (L':=[6,7,8,9,10,11,12,13,14]) 5 U U U U U (fun _=>GA (Am U id) Bl) ?_
 refine GO (L':=[7,8,9,10,11,12,13,14]) 6 U U U (fun _=>ES (H U) (Am U id)) ?_;refine GO (L':=[8,9,10,11,12,13,14]) 7 U U U (fun _=>A9 (H U)) ?_;refine GD (L':=[9,10,11,12,13,14]) 8 U U U U U (fun _=>AE Fl (H U)) ?_;refine GD (L':=[10,11,12,13,14]) 9 U U U U U (fun _=>AE TN (Am U id)) ?_;refine JP (L':=[11,12,13,14]) 10 U U U U U (fun w1 hx=>AU Cd (Am U id) (fun _=>(B6.A hx (by intro h;first|(injection h with h;omega)|cases h)).j U)) ?_;refine GD (L':=[12,13,14]) 11 U U U U U (fun _=>P4 (Am U id) Bl) ?_;refine GO (L':=[13,14]) 12 U U U (fun _=>ES (H U) (Am U id)) ?_;refine AQ 13 U U ?_;refine Br (L':=[14]) [0,3,3,3,0,3,3,3,3,3,0,3,3,2,3] U U U ?_;refine Hb U FH (H U) (H U) U U B4 U U ?_;intro c3 ak ck;clear B4;intro B4;replace B3:=CL B3 ak;replace B6:=CL B6 ak;have g:=CO g ak O;refine Bs (ak) ?_;refine GO (L':=[]) 14 U U U (fun _=>Eu (H U)) ?_;refine Kf [(0,_,_),(3,_,_),(4,_,_),(5,_,_)] (K U (K U (K U (K U (Bm _))))) ?_;refine FF (bk _ _ ?_);refine DZ (KV (rs:=[.cell 4 26,.tmp 5]) (vs:=[_,_]) U U (HQ U A3 U (by first|exact B3.row|exact B4.row|exact B6.row) (J7 U (HP))) U ?_);refine ⟨⟨BV (CE F S t).1 (.slice none 0 0),?_,?_⟩,g⟩;unfold Hp;rw [BW h1];rfl;have e:(Hp F t (Ax F t) S).1=(CE F S t).1:=by unfold Hp;rw [BW h1];rfl
 rw [e];exact BR (t:=(CE F S t).1) rfl (Qf _ _);have h1:t.c≠27:=CM h1;refine CU (bg _ _ ?_);refine Wg [(0,_,_),(3,_,_),(4,_,_),(5,_,_)] (K U (K U (K U (K U (Bm _))))) ?_;refine KR fun K6 a9=>?_;refine KR fun K7 bp=>?_;refine JZ [3,0,3] ?_;refine AG U (fun _=>AE FK (H U)) ?_;refine Ep U (AU Cd (H U) (fun _=>B3.j U)) ?_;refine AG U (fun _=>GA (H U) Bl) ?_;refine FD [(0,_,_),(3,_,_),(4,_,_),(5,_,_),(35,_,_)] (K U (K U (K U (K U (K U (Bm _)))))) ?_;refine Al (bp _ _ ?_);refine TM (H U) (fun h2=>?_) (fun h2=>?_);have h2:t.c=28:=AV h2;refine KR fun K8 bn=>?_;refine JZ [3,3,0,1,2] ?_;refine AG U (fun _=>A9 (H U)) ?_;refine AG U (fun _=>F8 (H U)) ?_;refine Ep U (A2 Yx (H U) U (fun _=>(h.B.a g).row)) ?_;refine EI U Z2 U ?_;intro b8 w8 N8;have bu:=N8.W B3;have cj:=N8.W B4;have l8:=N8.ge g;have g:=g.trans N8.g;replace B3:=B3.a (N8.g);replace B4:=B4.a (N8.g);have B8:=N8.p;refine Hb U aV (H U) (H U) U U B8 U U ?_;intro da am b1;have C8:=B8;clear B8;intro B8;replace B3:=CL B3 am;replace B4:=CL B4 am;have g:=CO g am O;refine FD [(0,_,_),(3,_,_),(4,_,_),(5,_,_),(8,_,_)] (K U (K U (K U (K U (K U (Bm _)))))) ?_;refine Al (bn _ _ ?_);refine KR fun K9 ba=>?_;refine JZ [1,3,3,3,0,2,3,2] ?_;refine SC U Lq ?_;intro av db bs ae aq;have y8:=B8.lt;have y3:=B3.lt;have y4:=B4.lt;have ae:=ae w.heap.size g.size
 have g:=g.trans aq;have B3:=B3.a aq;have B4:=B4.a aq;have B8:=B8.a aq;refine AG U (fun _=>A9 (H U)) ?_;refine AG U (fun _=>F8 (H U)) ?_;refine AG U (fun _=>AE LA (H U)) ?_;refine Ep U (AU Mi (H U) (fun _=>(h.B.a g).j U)) ?_;refine V7 U Lq Ta U Cb (H U) ae (H U) (RX Ue S.q) (fun h0=>by obtain ⟨b,o,e,r⟩:=bi h0;exact ⟨b,o,e,r.a g⟩) (jD S.q) (by simp only [maxLen];omega) O g.size ?_;intro a1 a5 a6 aa al;have B3:=B3.A al (fun e=>by have e':b3=av:=(by injection e);omega);have B4:=B4.A al (fun e=>by have e':b4=av:=(by injection e);omega);have B8:=B8.A al (fun e=>by have e':b8=av:=(by injection e);omega);have g:G w a6:=MZ g al g.size (fun k hk=>(ae.lt k hk).1);have aa:a6.ownsRow w.heap.size 83 6 (.slice a1 (0+S.q.length) a5) (0+S.q.length) (S.q.flatMap JB):=aa;rw [show 0+S.q.length=S.q.length from HZ _] at aa ⊢;refine AG U (fun _=>AE LA (H U)) ?_;refine H1 U QW (H U) (H U) U B8 U U ?_;intro dg aj ch;have C8:=B8;clear B8;intro B8;replace B3:=CL B3 aj;replace B4:=CL B4 aj;have g:=CO g aj O;have aa:=Df aa aj (.inr (DR aa C8 rfl));refine FD [(0,_,_),(3,_,_),(4,_,_),(5,_,_),(8,_,_)] (K U (K U (K U (K U (K U (Bm _)))))) ?_;refine Al (ba _ _ ?_);refine KR fun c4 a8=>?_;refine JZ [1,3,3,3,0,2,3,2] ?_;refine SC U GR ?_;intro aw cy bz ac ap;have y8:=B8.lt;have y3:=B3.lt
 have y4:=B4.lt;have ac:=ac w.heap.size g.size;have g:=g.trans ap;have B3:=B3.a ap;have B4:=B4.a ap;have B8:=B8.a ap;have aa:=D7 aa ap;refine AG U (fun _=>A9 (H U)) ?_;refine AG U (fun _=>F8 (H U)) ?_;refine AG U (fun _=>AE P9 (H U)) ?_;refine Ep U (AU Nn (H U) (fun _=>(h.B.a g).j U)) ?_;refine V7 U GR Lp U Cb (H U) ac (H U) (by rw [List.length_map,Nat.mul_one]) (fun h0=>by obtain ⟨b,o,e,r⟩:=bj h0;exact ⟨b,o,e,r.a g⟩) (nG S.next) (by simp only [maxLen];omega) O g.size ?_;intro a7 a3 a2 ab ag;have B3:=B3.A ag (fun e=>by have e':b3=aw:=(by injection e);omega);have B4:=B4.A ag (fun e=>by have e':b4=aw:=(by injection e);omega);have B8:=B8.A ag (fun e=>by have e':b8=aw:=(by injection e);omega);have aa:=Df aa ag (Jj aa ac rfl);have g:G w a2:=MZ g ag g.size (fun k hk=>(ac.lt k hk).1);have ab:a2.ownsRow w.heap.size 3 1 (.slice a7 (0+S.next.length) a3) (0+S.next.length) (S.next.map fun (k:Nat)=>Value.int .i64 (k:Int)):=ab;rw [show 0+S.next.length=S.next.length from HZ _] at ab ⊢;refine AG U (fun _=>AE P9 (H U)) ?_;refine H1 U O5 (H U) (H U) U B8 U U ?_;intro be ah cd;have C8:=B8;clear B8;intro B8;replace B3:=CL B3 ah;replace B4:=CL B4 ah;have g:=CO g ah O;have aa:=Df aa ah (.inr (DR aa C8 rfl));have ab:=Df ab ah (.inr (DR ab C8 rfl))
 refine FD [(3,_,_),(4,_,_),(5,_,_),(8,_,_)] (K U (K U (K U (K U (Bm _))))) ?_;refine Al (a8 _ _ ?_);refine KR fun cp a4=>?_;refine JZ [0,2,3,3,3,1,2,3] ?_;have hP:FY F w.heap.size b8 S (.slice pf F.b.length cf) (.slice a1 S.q.length a5) (.slice a7 S.next.length a3) be:=⟨B8,l8,(h.kF.a g).mono (fun k hk _=>O),h.hF,aa,ab⟩;have bh:=(az.a g).mono (D':=fun k=>k<w.heap.size) (fun k hk _=>O);refine Ep U (A2 A3 (H U) U (fun _=>B3.row)) ?_;refine Fg U (BK vB Cf (Cu (H U) (Cu (H U) (CY))) U) (Nj.to (HM h2) [b3,b4] hP.ah bh hb br (Fe.2 ⟨B3.lt,(Fe.2 ⟨B4.lt,(It _)⟩)⟩) g.size) ?_;rintro di c5 ⟨⟨dd,c1,rfl,bc,af⟩,hQ,ax⟩;refine ⟨E3,?_⟩;have g:=Oz g ax (AN _);have B3:=B3.gt ax rfl;have B4:=B4.gt ax rfl;obtain ⟨cu,cz,c2,hQ⟩:=hQ;have B8:=hQ.B;refine AG U (fun _=>A9 (H U)) ?_;refine AG U (fun _=>FW (H U) U) ?_;refine AG U (fun _=>FW (H U) U) ?_;refine EI U Ck U ?_;intro b9 w9 N9;have b0:=N9.W B3;have b7:=N9.W B4;have bv:=N9.W B8;have l9:=N9.ge g;have af:=af.new N9;have g:=g.trans N9.g;replace B3:=B3.a (N9.g);replace B4:=B4.a (N9.g);replace B8:=B8.a (N9.g);have B9:=N9.p;refine Hb U FH (H U) (H U) U U B9 U U ?_;intro c9 ai ce;clear B9;intro B9;replace B3:=CL B3 ai;replace B4:=CL B4 ai;replace B8:=CL B8 ai
 have g:=CO g ai O;have af:=af.A ai BI;refine AG U (fun _=>Eu (H U)) ?_;refine FD [(4,_,_),(5,_,_),(8,_,_),(9,_,_),(10,_,_)] (K U (K U (K U (K U (K U (Bm _)))))) ?_;refine Al (a4 _ _ ?_);refine KR fun dc a0=>?_;refine DE (Ef (some b4)) [0,3,3,3,0,3,3,3,3,3,0,3,3,1,3] [0,0,2,6,14,30,62,126,254,510,1022,2046,4094,255,16383] CI Ai [0,1,2,3,4,5,6,7,8,9,10,11,12,13,14] U ?_;have g:=Ho g;replace B3:=B3.a (G.drew _);replace B4:=B4.a (G.drew _);replace B8:=B8.a (G.drew _);replace B9:=B9.a (G.drew _);have aa:=D7 aa (G.drew _);have ab:=D7 ab (G.drew _);have af:=af.a (G.drew _);refine LB (L':=[1,2,3,4,5,6,7,8,9,10,11,12,13,14]) 0 U U U (fun w1 hx=>A2 A3 (H U) U (fun _=>(B9.A hx (by intro h;first|(injection h with h;omega)|cases h)).row)) ?_;refine GO (L':=[2,3,4,5,6,7,8,9,10,11,12,13,14]) 1 U U U (fun _=>A9 (H U)) ?_;refine GO (L':=[3,4,5,6,7,8,9,10,11,12,13,14]) 2 U U U (fun _=>A9 (H U)) ?_;refine GD (L':=[4,5,6,7,8,9,10,11,12,13,14]) 3 U U U U U (fun _=>AE Rb (H U)) ?_;refine JP (L':=[5,6,7,8,9,10,11,12,13,14]) 4 U U U U U (fun w1 hx=>AU Nu (Am U id) (fun _=>(B8.A hx (by intro h;first|(injection h with h;omega)|cases h)).j U)) ?_;refine GD (L':=[6,7,8,9,10,11,12,13,14]) 5 U U U U U (fun _=>GA (Am U id) Bl) ?_;refine GO (L':=[7,8,9,10,11,12,13,14]) 6 U U U (fun _=>ES (H U) (Am U id)) ?_;refine GO (L':=[8,9,10,11,12,13,14]) 7 U U U (fun _=>A9 (H U)) ?_
 refine GD (L':=[9,10,11,12,13,14]) 8 U U U U U (fun _=>AE Fl (H U)) ?_;refine GD (L':=[10,11,12,13,14]) 9 U U U U U (fun _=>AE TN (Am U id)) ?_;refine JP (L':=[11,12,13,14]) 10 U U U U U (fun w1 hx=>AU Cd (Am U id) (fun _=>(B9.A hx (by intro h;first|(injection h with h;omega)|cases h)).j U)) ?_;refine GD (L':=[12,13,14]) 11 U U U U U (fun _=>P4 (Am U id) Bl) ?_;refine GO (L':=[13,14]) 12 U U U (fun _=>ES (H U) (Am U id)) ?_;refine AQ 13 U U ?_;refine Br (L':=[14]) [0,3,3,3,0,3,3,3,3,3,0,3,3,2,3] U U U ?_;refine Hb U FH (H U) (H U) U U B4 U U ?_;intro df ad b2;clear B4;intro B4;replace B3:=CL B3 ad;replace B8:=CL B8 ad;replace B9:=CL B9 ad;have g:=CO g ad O;have af:=af.A ad BI;refine Bs (ad) ?_;refine GO (L':=[]) 14 U U U (fun _=>Eu (H U)) ?_;refine Kf [(4,_,_),(5,_,_)] (K U (K U (Bm _))) ?_;refine FF (a0 _ _ ?_);refine DZ (KV (rs:=[.cell 4 26,.tmp 5]) (vs:=[_,_]) U U (HQ U A3 U (by first|exact B3.row|exact B4.row|exact B8.row|exact B9.row) (J7 U (HP))) U ?_)
 have e2:Hp F t (Ax F t) S=(((Ah F t).w S).1.1,(((Ah F t).w S).1.2&&Ae (((Ah F t).w S).2.ee=0))&&Ae (8≤((Ah F t).w S).1.1.ty.c)):=by
  rw [em];unfold Hp;rw [Aq h1,BW h2];rfl
 rw [e2];exact ⟨⟨_,rfl,BR rfl (af.Y bc)⟩,g⟩;have h2:t.c≠28:=CM h2;refine CU (a9 _ _ ?_);refine Wg [(4,_,_),(5,_,_)] (K U (K U (Bm _))) ?_;refine KR fun de ay=>?_;refine JZ [3,2,3] ?_;refine Gi Ck Js Cz U U ?_;refine Hb U FH (H U) (H U) U U B4 U U ?_;intro dh ar bw;clear B4;intro B4;replace B3:=CL B3 ar;have g:=CO g ar O;refine AG U (fun _=>Eu Bl) ?_;refine FD [(4,_,_),(5,_,_)] (K U (K U (Bm _))) ?_;refine Al (ay _ _ ?_);refine DZ (KV (rs:=[.cell 4 26,.tmp 5]) (vs:=[_,_]) U U (HQ U A3 U (by first|exact B3.row|exact B4.row) (J7 U (HP))) U ?_)
 have e2:Hp F t (Ax F t) S=(EN,false):=by
  unfold Hp;rw [Aq h1,Aq h2];rfl
 rw [e2];exact ⟨⟨_,rfl,BR (t:=EN) rfl (Iz _ _)⟩,g⟩
end Go.Rk
