/- Texts. Conditions: each its own. -/
import Derived.Test.YtmpfjifhkmdbaaaGreatDoorJ02
import Derived.Test.YtmpfjifhkmdbaaaGreatDoorJ01
import Derived.Test.YtmpfjifhkmdbaaaGreatDoorJ03
import Derived.Lib.ItoaNum
import Derived.Laws.MakeOwn
import Derived.Laws.BytesString
import Derived.Lib.ConvBytes
import Derived.Lib.AtoiErrMem
import Derived.Laws.OwnMore
set_option linter.unusedSimpArgs false
set_option linter.unusedVariables false
set_option maxHeartbeats 16000000
set_option maxRecDepth 100000
open Bool renaming and_eq_true→Ao,or_eq_true→A2,and_eq_true_iff→CR,not_true→D4,not_false→E0,and_true→Gq,or_eq_false_iff→Iz
open Go renaming World→Ae,TypeId→AD,Value→Bf
open Go.Result renaming andThen_ok→Bl
open Go.Value renaming slice→AJ
open List renaming mem_cons→Cj,not_mem_nil→CC,getElem?_eq_getElem→Dr,length_append→Du,length_take→DQ,getElem_mem→Ez,take_length→EY,length_set→E8,getElem?_set_self→E6,getElem?_set_ne→FI,eq_nil_or_concat→F3,concat_eq_append→Gc,reverse_append→Gm,reverse_singleton→GN,singleton_append→GZ,getElem?_append_left→Ha,getElem?_append_right→Hp,dropLast_concat→Ip,map_congr_left→IH,forall_mem_cons→IM,mem_of_find?_eq_some→Ju,drop_eq_getElem_cons→Jz,take_succ_eq_append_getElem→Kh,getElem?_take→Lo,mem_cons_of_mem→Kp,getElem?_eq_some_iff→KJ,getElem?_eq_none→Kn
open Nat renaming le_refl→AA,beq→Bu,zero_le→Cq,le_trans→CW,lt_of_lt_of_le→Ei,blt→Eo,sub_self→Ht,mul_le_mul_right→Hv,eq_of_beq_eq_true→Kv
open Decidable renaming decide→Ac
namespace Go.Proofs
end Go.Proofs
namespace Go.Rk
open Go.Proofs
open Go Go.RowKit
def LZ(M:Nat→Nat→Bool)(w:Ae)(k:Nat):Prop:=∃ cs e fr,w.heap[k]? = some (.cells cs e fr)∧M e k=true
structure AP (M:Nat→Nat→Bool) (n0:Nat) (w w':Ae):Prop where
  os:w'.os=w.os
  tape:w'.tape=w.tape
  output:w'.output=w.output
  size:w.heap.size≤w'.heap.size
  block:∀ k,k<w.heap.size→(k<n0∨¬ LZ M w k)→w'.heap[k]? = w.heap[k]?
section
variable {M:Nat→Nat→Bool} {n0:Nat}
theorem AP.refl(M:Nat→Nat→Bool)(n0:Nat)(w:Ae):AP M n0 w w:=⟨rfl,rfl,rfl,AA _,fun _ _ _=>rfl⟩
theorem AP.trans{u v w:Ae}(h:AP M n0 u v)(k:AP M n0 v w):AP M n0 u w :=
 ⟨k.os.trans h.os,k.tape.trans h.tape,k.output.trans h.output,CW h.size k.size,fun i hi hb=>by
 have e:=h.block i hi hb;refine (k.block i (Ei hi h.size) (hb.imp id fun hb hr=>hb ?_)).trans e;obtain ⟨cs,f,fr,hr,hm⟩:=hr;exact ⟨cs,f,fr,e.symm.trans hr,hm⟩⟩
theorem AP.Y{w w':Ae}(h:G w w'):AP M n0 w w':=⟨h.os,h.tape,h.output,h.size,fun k hk _=>h.block hk⟩
theorem NX{a w:Ae}(g:AP M n0 a w):AP M n0 a w.drew:=g.trans (AP.Y (G.drew _))
theorem OK{p A B:Prop}(h:A→B→p)(k:(A→B→p)→p:=by exact fun z=>z (NX g) E.dr):p:=k h
theorem Da{p A B C:Prop}(h:A→B→C→p)(k:(A→B→C→p)→p:=by exact fun z=>z (NX g) E.dr (h.A (G.drew _))):p:=k h
theorem BZ{a w w':Ae}(g:AP M n0 a w)(h:G w w'):AP M n0 a w':=g.trans (AP.Y h)
theorem OJ{w0 w w':Ae}(g:G w0 w)(h:AP M n0 w w')(hn:w0.heap.size≤n0):G w0 w' :=
 ⟨h.os.trans g.os,h.tape.trans g.tape,h.output.trans g.output,CW g.size h.size,fun k hk=>(h.block k (Ei hk g.size) (.inl O)).trans (g.block hk)⟩
theorem EQ{w0 w w':Ae}{row:Option Nat}(h:AP M n0 w0 w)(hg:w.grownBy w' row)(hr:∀ k,row=some k→w0.heap.size≤k):AP M n0 w0 w' :=
 ⟨hg.os.trans h.os,hg.tape.trans h.tape,hg.output.trans h.output,CW h.size hg.size,fun k hk hb=>(hg.block k (Ei hk h.size) (fun e=>by have:=hr k e.symm;omega)).trans (h.block k hk hb)⟩
theorem Cw{w0 w w':Ae}{j:Nat}(h:AP M n0 w0 w)(hg:w.grownBy w' (some j))(hj:w0.heap.size≤j):AP M n0 w0 w' :=
 EQ h hg fun k hk=>by injection hk with hk;omega
theorem Yn{w0 w w':Ae}{row:Option Nat}(h:AP M n0 w0 w)(hg:w.grownBy w' row)(hr:∀ k,row=some k→n0≤k∧LZ M w k):AP M n0 w0 w' :=
 ⟨hg.os.trans h.os,hg.tape.trans h.tape,hg.output.trans h.output,CW h.size hg.size,fun k hk hb=>(hg.block k (Ei hk h.size) (fun e=>by
 obtain ⟨h1,h2⟩:=hr k e.symm;rcases hb with hb|hb;omega;obtain ⟨cs,f,fr,h3,h4⟩:=h2;exact hb ⟨cs,f,fr,(h.block k hk (.inr hb)).symm.trans h3,h4⟩)).trans (h.block k hk hb)⟩
theorem YI{w:Ae}{b:Nat}{e:AD}{l:List Bf}(h:Ax w b e l)(he:M e=fun _=>true):LZ M w b:=⟨_,_,_,h,congrFun he b⟩
theorem SP{w:Ae}{b:Nat}{e:AD}{l:List Bf}(h:Ax w b e l)(he:M e=fun _=>false):¬ LZ M w b:=fun ⟨cs,f,fr,hr,hm⟩=>by
 unfold Ax at h;rw [h] at hr;injection hr with hr;injection hr with _ hr;subst hr;rw [he] at hm;cases hm
theorem QG{w:Ae}{e:AD}{z m:Nat}{v:Bf}{xs:List Bf}(h:w.ownsRow n0 e z v m xs)(he:M e=fun _=>true):∀ k,v.ownBlock=some k→n0≤k∧LZ M w k:=fun k hk=>by
 rcases h.2 with ⟨h1,_⟩|⟨g,aa,ab,h1,h2,h3,_⟩;rw [h1] at hk;cases hk;rw [h1] at hk;have:g=k:=by injection hk
 subst this;exact ⟨h2,_,_,_,h3,congrFun he _⟩
theorem JC{w0 w w':Ae}{b:Nat}{e:AD}{l:List Bf}(h:AP M n0 w0 w)(hg:w.grownBy w' (some b))(hB:Ax w b e l)(he:M e=fun _=>true)(hb:n0≤b):AP M n0 w0 w' :=
 Yn h hg fun k hk=>by injection hk with hk;subst hk;exact ⟨hb,YI hB he⟩
theorem aD{w0 w w':Ae}{e:AD}{z m:Nat}{v:Bf}{xs:List Bf}(h:AP M n0 w0 w)(hO:w.ownsRow n0 e z v m xs)(he:M e=fun _=>true)(hg:w.grownBy w' v.ownBlock):AP M n0 w0 w' :=
 Yn h hg (QG hO he)
theorem Ax.gt{j:Nat}{w w':Ae}{e:AD}{l:List Bf}(h:Ax w j e l)(g:AP M n0 w w')(he:M e=fun _=>false):Ax w' j e l :=
 (g.block j h.lt (.inr (SP h he))).trans h
theorem CP.gt{w w':Ae}{L:List (Nat×AD×List Bf)}(E:CP w L)(g:AP M n0 w w')(ht:(L.all fun x=>!M x.2.1 x.1)=true):CP w' L :=
 ⟨E.1,ON E.2 fun b e l hm h=>(g.block b h.lt (.inr fun ⟨cs,f,fr,hr,hM⟩=>by
 unfold Ax at h;rw [h] at hr;injection hr with hr;injection hr with _ hr;subst hr;have:=List.all_eq_true.1 ht _ hm;simp [hM] at this)).trans h⟩
theorem Bv.gt{w w':Ae}{D:Nat→Prop}{ks:List Nd}{v:Bf}(h:Bv w D ks v)(g:AP M n0 w w')(hD:∀ k,D k→k<n0):Bv w' D ks v :=
 HQ h (fun _ h _=>h) fun k hk aa=>g.block k aa (.inl (hD k hk))
theorem CQ.gt{j o:Nat}{w w':Ae}{l:List Bf}(h:CQ w j o l)(g:AP M n0 w w')(hj:j<n0):CQ w' j o l:=fun i v hi=>by
 have h1:=h i v hi;exact (World.cell?_of_block (g.block j (World.block_lt_of_cell? w _ h1) (.inl hj))).trans h1
def G8(w:Ae)(k:Nat):Prop:=∃ cs fr,w.heap[k]? = some (.cells cs 26 fr)
theorem G8.lt{w:Ae}{k:Nat}(h:G8 w k):k<w.heap.size:=by
 obtain ⟨cs,fr,h⟩:=h;exact (Array.getElem?_eq_some_iff.1 h).1
theorem DK{w:Ae}{b:Nat}{l:List Bf}(h:Ax w b 26 l):G8 w b:=⟨_,_,h⟩
theorem G8.ac{w w':Ae}{k:Nat}(h:G8 w k)(e:w'.heap[k]? = w.heap[k]?):G8 w' k:=by
 obtain ⟨cs,fr,h⟩:=h;exact ⟨cs,fr,e.trans h⟩
theorem G8.aw{w:Ae}{k:Nat}(h:G8 w k)(he:M 26=fun _=>false):¬ LZ M w k:=fun ⟨cs,f,fr,hr,hm⟩=>by
 obtain ⟨ab,aa,h⟩:=h;rw [h] at hr;injection hr with hr;injection hr with _ hr;subst hr;rw [he] at hm;cases hm
theorem G8.gt{w w':Ae}{k:Nat}(h:G8 w k)(g:AP M n0 w w')(he:M 26=fun _=>false):G8 w' k:=h.ac (g.block k h.lt (.inr (h.aw he)))
theorem G8.A{w w':Ae}{k:Nat}(h:G8 w k)(g:G w w'):G8 w' k:=h.ac (g.block h.lt)
def Gb(lo:Nat)(w:Ae)(ks:List Nd)(v:Bf):Prop:=Bv w (fun k=>lo≤k∧G8 w k) ks v
theorem Gb.A{lo:Nat}{w w':Ae}{ks:List Nd}{v:Bf}(h:Gb lo w ks v)(g:G w w'):Gb lo w' ks v :=
 HQ h (fun k hk _=>⟨hk.1,hk.2.A g⟩) fun k hk aa=>g.block aa
theorem Gb.C{lo:Nat}{w w':Ae}{row:Option Nat}{ks:List Nd}{v:Bf}(h:Gb lo w ks v)(hg:w.grownBy w' row)(hr:∀ k,row=some k→k<lo):Gb lo w' ks v :=
 HQ h (fun k hk aa=>⟨hk.1,hk.2.ac (hg.block k aa fun e=>by have:=hr k e.symm;omega)⟩) fun k hk aa=>hg.block k aa fun e=>by have:=hr k e.symm;omega
theorem Gb.bp{lo lo':Nat}{w:Ae}{ks:List Nd}{v:Bf}(h:Gb lo w ks v)(hl:lo'≤lo):Gb lo' w ks v:=Bv.mono h fun k hk _=>⟨O,hk.2⟩
theorem IL(lo:Nat)(w:Ae):Gb lo w [] (.slice none 0 0):=Ob _ _
def Ii(t:Nd)(lo:Nat)(r:Bf)(w:Ae):Prop:=∃ p c,r=Cd t (.slice p t.j.length c)∧Gb lo w t.j (.slice p t.j.length c)
theorem Po(t:Nd)(lo:Nat)(w:Ae)(h:t.j=[]):Ii t lo (Cd t (.slice none 0 0)) w:=⟨none,0,by rw [h];rfl,by rw [h];exact IL _ _⟩
theorem TV{t:Nd}{lo:Nat}{v:Bf}{w:Ae}(h:Gb lo w t.j v):Ii t lo (Cd t v) w:=by
 obtain ⟨p,c,rfl,h2⟩:=h;exact ⟨p,c,rfl,p,c,rfl,h2⟩
def Dp(X:List Nat)(lo:Nat)(w:Ae)(ks:List Nd)(s:Bf):Prop:=F5 26 (fun b=>J3 lo X b∧G8 w b) lo w ks s
section
variable {X:List Nat} {lo:Nat} {w w':Ae} {ks:List Nd} {s:Bf}
theorem Kr(X:List Nat)(lo:Nat)(w:Ae):Dp X lo w [] (.slice none 0 0):=ZD _ _ _ _
theorem Dp.slice(h:Dp X lo w ks s):∃ a c,s = .slice a ks.length c:=F5.slice h
theorem Dp.ge(h:Dp X lo w ks s):∀ k,s.ownBlock=some k→lo≤k:=F5.ge h
theorem Dp.lt(h:Dp X lo w ks s):∀ k,s.ownBlock=some k→k<w.heap.size:=F5.lt h
theorem Dp.ne(h:Dp X lo w ks s){b:Nat}(hb:b∈X):some b≠s.ownBlock:=F5.ne h fun hd=>hd.1.2 hb
theorem Dp.nd(h:Dp X lo w ks s):∀ k,s.ownBlock=some k→G8 w k:=fun k hk=>by
 obtain ⟨xs,_,_,h3⟩:=h;exact (h3 k hk).2
theorem Qg{e:AD}{D D':Nat→Prop}{base:Nat}(h:F5 e D base w ks s)(hD:∀ b,D b→b<w.heap.size→D' b)(hs:∀ b,D b→b<w.heap.size→w'.heap[b]? = w.heap[b]?)(ho:∀ xs,w.ownsRow base e 9 s ks.length xs→w'.ownsRow base e 9 s ks.length xs):F5 e D' base w' ks s:=by
 obtain ⟨xs,h1,h2,h3⟩:=h;exact ⟨xs,ho xs h1,MU (fun b hb aa=>⟨hD b hb.1 aa,hb.2⟩) (fun b hb aa=>hs b hb.1 aa) _ _ h2,fun b hb=>hD b (h3 b hb) (h1.lt b hb).2⟩
theorem Dp.A(h:Dp X lo w ks s)(g:G w w'):Dp X lo w' ks s :=
 Qg h (fun b hb _=>⟨hb.1,hb.2.A g⟩) (fun b _ aa=>g.block aa) fun xs h=>Ef h g
theorem P6{e:AD}{base z m:Nat}{v:Bf}{xs:List Bf}(h:w.ownsRow base e z v m xs)(hs:∀ b,v.ownBlock=some b→w'.heap[b]? = w.heap[b]?):w'.ownsRow base e z v m xs:=by
 refine ⟨h.1,?_⟩;rcases h.2 with h1|⟨g,aa,ab,h1,h2,h3,h4⟩;exact .inl h1;exact .inr ⟨g,aa,ab,h1,h2,(hs g (by rw [h1];rfl)).trans h3,h4⟩
theorem Dp.gt(h:Dp X lo w ks s)(g:AP M n0 w w')(he:M 26=fun _=>false):Dp X lo w' ks s:=by
 have hn:=h.nd;have hl:=h.lt;exact Qg h (fun b hb _=>⟨hb.1,hb.2.gt g he⟩) (fun b hb aa=>g.block b aa (.inr (hb.2.aw he))) fun xs h=>P6 h fun b hb=>g.block b (hl b hb) (.inr ((hn b hb).aw he))
theorem Dp.C(h:Dp X lo w ks s){b:Nat}(hg:w.grownBy w' (some b))(hb:b∈X):Dp X lo w' ks s:=by
 have ab:=h.ne hb;refine Qg h (fun k hk aa=>⟨hk.1,hk.2.ac (hg.block k aa fun e=>by injection e with e;exact hk.1.2 (e▸hb))⟩) (fun k hk aa=>hg.block k aa fun e=>by injection e with e;exact hk.1.2 (e▸hb)) fun xs h=>Dg h hg (.inr fun e=>ab e.symm)
theorem Dp.kd(h:Dp X lo w ks s):Gb lo w ks s:=F5.kd h fun b hb=>⟨hb.1.1,hb.2⟩
end
end
section
variable {P:Program} {Z:List PanicEntry→Act→Ae→Prop} {ops:List Oper} {cl:List Nat} {lv:List Bool} {W0:Ae} {n:Nat} {K:Act→Ae→Prop} {k:Nat} {rest:List Oper} {σ:List Ce} {w:Ae} {d:Nat} {ty:AD} {pos:String} {after:Array Edge}
theorem Hx{t q q':Nat}{x y:Operand}{s zv:Bf}{news:List Bf}{b' o' lo:Nat}{X:List Nat}{ks ls:List Nd}(hb:(Bu (Bw cl k) 2&&Eo d n)=true)(ht:Gf P t=some (26,9,104))(ag:Gh P 26=some zv)
 (ah:zv.cells.size=9) (hx:BI n σ True x s) (hO:Dp X lo w ks s) (hy:BI n σ True y (.slice (some ⟨b',o',none⟩) q q')) (hq:ls.length=q) (hn:CQ w b' o' news) (hK:FC w (fun b=>(J3 lo X b∧G8 w b)∧some b≠s.ownBlock) ls news)
 (aj:ks.length+ls.length≤10000000) (ac:lo≤w.heap.size) (hD:J3 lo X w.heap.size)
 (h:∀ a' c' w',Dp X lo w' (ks++ls) (.slice a' (ks++ls).length c')→w.grownBy w' s.ownBlock→BK P Z ops cl lv W0 n K (k+1) rest ((d,True,.slice a' (ks++ls).length c') :: σ) w') :
 BK P Z ops cl lv W0 n K k (⟨some d,.call { callee:=.builtin .append,args:=#[x,y],argTypes:=#[t,t] },ty,pos,after,none⟩::rest) σ w:=by
 obtain ⟨xs,h1,h2,h3⟩:=id hO;subst hq;have ae:=SV hK;refine Ja hb ht ag ah BT hx h1 hy (RF hK) hn ae (by simp only [maxLen];omega) O ac fun a' c' w' ho hg ad=>?_;have aa:(ks++ls).length=ks.length+ls.length:=by simp
 have ai:∀ b,(AJ a' (ks.length+ls.length) c').ownBlock=some b→G8 w' b:=fun b hb=>by
  rcases ho.2 with ⟨q1,_⟩|⟨g,ak,al,q1,_,q3,_⟩;rw [q1] at hb;cases hb;rw [q1] at hb;have:g=b:=by injection hb
  subst this;exact ⟨_,_,q3⟩
 have af:Dp X lo w' (ks++ls) (.slice a' (ks++ls).length c'):=by
  refine ⟨xs++news,by rw [aa];exact ho,?_,?_⟩;rw [aa];refine MU (fun b hb ab=>⟨⟨hb.1.1,hb.1.2.ac (hg.block b ab hb.2)⟩,?_⟩) (fun b hb ab=>hg.block b ab hb.2) _ _ (Rn h2 hK);rcases ad with he|he <;> rw [he]
  exact hb.2;intro e;injection e with e;omega;rw [aa];intro b hb;refine ⟨?_,ai b hb⟩;rcases ad with he|he <;> rw [he] at hb
  exact (h3 b hb).1;injection hb with hb;exact hb▸hD
 have:=h a' c' w' af hg;rwa [Du] at this
end
section
variable {w w':Ae} {base:Nat} {e:AD} {z m q:Nat} {v:Bf} {o:Option Addr} {xs:List Bf}
theorem Rj{j:Nat}(h:w.ownsRow base e z (.slice o m q) m xs)(hj:j≤m):w.ownsRow base e z (.slice o j q) j (xs.take (j*z)):=by
 have hl:j*z≤m*z:=Hv z hj;refine ⟨by rw [DQ,h.1];omega,?_⟩;rcases h.2 with ⟨h1,h2⟩|⟨g,ab,aa,h1,h2,h3,h4,h5,h6,h7⟩;injection h1 with AU e2 e3;subst AU;subst e3;exact .inl ⟨by rw [show j=0 by omega],O⟩;injection h1 with AU e2 e3;subst AU;subst e3;exact .inr ⟨g,q,aa,rfl,h2,h3,O,h5,h6,by rw [← h7,List.take_take,Nat.min_eq_left hl]⟩
theorem Q9(h:w.ownsRow base e z v m xs)(hm:0<m):∃ g c l,v = .slice (some ⟨g,0,none⟩) m c∧base≤g∧Ax w g e l∧m≤c∧l.length=c*z∧l.take (m*z)=xs∧
 ∀ w' l',Ax w' g e l'→l'.length=c*z→w'.ownsRow base e z v m (l'.take (m*z)):=by
 rcases h.2 with ⟨_,h2⟩|⟨g,aa,ab,h1,h2,h3,h4,h5,h6,h7⟩;omega;refine ⟨g,aa,ab.toList,h1,h2,by simpa [Ax] using h3,h4,by simpa using h6,h7,fun w' l' hB hl=>⟨?_,.inr ⟨g,aa,l'.toArray,h1,h2,hB,h4,h5,by simpa using hl,by simp⟩⟩⟩;rw [DQ,hl];have:=Hv z h4;omega
theorem take_set{α:Type}(l:List α)(i n:Nat)(u:α)(h:i<n):(l.set i u).take n=(l.take n).set i u:=by
 rw [List.take_set]
end
def DU(e _k:Nat):Bool:=Bu e 67 || (Bu e 96 || Bu e 3)
def Q6(F:Nd)(fv sv sn:Bf)(S:Ak):List Bf:=De F fv++[sv,.int .i64 S.w,.int .i64 S.D,sn,.int .i64 S.E.k,Cg S.E.name,.int .i64 S.ea,.int .i64 S.ee]
structure FS (F:Nd) (n0 b:Nat) (S:Ak) (fv sv sn:Bf) (w:Ae):Prop where
  B:Ax w b 67 (Q6 F fv sv sn S)
  hb:n0≤b
  kF:Bv w (fun k=>k<n0) F.j fv
  hF:count F≤1000000
  ov:w.ownsRow n0 96 6 sv S.F.length (S.F.flatMap JU)
  on:w.ownsRow n0 3 1 sn S.next.length (S.next.map fun (k:Nat)=>Value.int .i64 (k:Int))
def D5(F:Nd)(n0 b:Nat)(S:Ak)(w:Ae):Prop:=∃ fv sv sn,FS F n0 b S fv sv sn w
section
variable {F:Nd} {n0 b:Nat} {S S':Ak} {fv sv sn sv' sn':Bf} {w w' w1 w2:Ae}
theorem DY{e e':AD}{z m j:Nat}{v:Bf}{xs l:List Bf}(h:w.ownsRow n0 e z v m xs)(hB:Ax w j e' l)(he:Bu e e'=false):v.ownBlock≠some j:=fun hk=>by
 rcases h.2 with ⟨h1,_⟩|⟨g,aa,ab,h1,h2,h3,_⟩;rw [h1] at hk;cases hk;rw [h1] at hk;have:g=j:=by injection hk
 subst this;unfold Ax at hB;rw [hB] at h3;injection h3 with h3;injection h3 with _ h3;subst h3;simp at he
theorem Ji{e e':AD}{z z' m m':Nat}{v v':Bf}{xs ac:List Bf}(h:w.ownsRow n0 e z v m xs)(h':w.ownsRow n0 e' z' v' m' ac)(he:Bu e e'=false):v.ownBlock=none∨v.ownBlock≠v'.ownBlock:=by
 rcases h.2 with ⟨h1,_⟩|⟨g,af,ah,h1,h2,h3,_⟩;exact .inl (by rw [h1];rfl);refine .inr fun hk=>?_;rcases h'.2 with ⟨ab,_⟩|⟨g',ad,ae,ab,ag,aa,_⟩;rw [h1,ab] at hk;cases hk;rw [h1,ab] at hk;have:g=g':=by injection hk
 subst this;rw [h3] at aa;injection aa with aa;injection aa with _ aa;subst aa;simp at he
theorem cV{M:Nat→Nat→Bool}{e:AD}{z m:Nat}{v:Bf}{xs:List Bf}{row:Option Nat}(h:w.ownsRow n0 e z v m xs)(he:M e=fun _=>true)(hg:w.grownBy w' row)(hr:∀ k,row=some k→¬ LZ M w k):w'.ownsRow n0 e z v m xs:=by
 have ht:=QG h he;refine Dg h hg ?_;rcases h.2 with ⟨h1,_⟩|⟨g,aa,ab,h1,_⟩;exact .inl (by rw [h1];rfl);refine .inr fun hk=>?_;have hv:v.ownBlock=some g:=by rw [h1];rfl
 exact hr g (hk.symm.trans hv) (ht g hv).2
theorem UF(w:Ae)(row:Option Nat):w.grownBy w row:=⟨rfl,rfl,rfl,AA _,fun _ _ _=>rfl⟩
theorem FS.lt(h:FS F n0 b S fv sv sn w):n0≤b∧b<w.heap.size:=⟨h.hb,h.B.lt⟩
theorem FS.A(h:FS F n0 b S fv sv sn w)(g:G w w'):FS F n0 b S fv sv sn w':=⟨h.B.A g,h.hb,h.kF.A g,h.hF,Ef h.ov g,Ef h.on g⟩
theorem FS.ai{row:Option Nat}(h:FS F n0 b S fv sv sn w)(hg:w.grownBy w' row)(hr:∀ k,row=some k→n0≤k∧¬ LZ DU w k):FS F n0 b S fv sv sn w' :=
 ⟨h.B.C hg (fun e=>(hr b e.symm).2 (YI h.B rfl)),h.hb,h.kF.C hg fun k hk _ e=>by have:=(hr k e.symm).1;omega,h.hF,cV h.ov rfl hg fun k hk=>(hr k hk).2,cV h.on rfl hg fun k hk=>(hr k hk).2⟩
theorem Wr(v:Dz):(JU v).length=6:=rfl
def ZY:Dz:=⟨[],Az,0,0,0⟩
def QZ(l:List Dz):Dz:=l.getLast?.getD ZY
theorem UP{l:List Dz}(h:w.ownsRow n0 96 6 sv l.length (l.flatMap JU)):∃ p c,sv = .slice p l.length c∧l.length≤c∧∀ i,(hi:i<l.length)→p=some ⟨E5 p,Gu p,none⟩∧CQ w (E5 p) (Gu p+i*6) (JU l[i]):=by
 obtain ⟨p,c,hv,hc⟩:=IJ h;refine ⟨p,c,hv,hc,fun i hi=>?_⟩;obtain ⟨g,c',aa,_,hR,_⟩:=LU h O;rw [hv] at aa;injection aa with AU _ _;subst AU;exact ⟨rfl,OQ Wr hR hi⟩
theorem Aad{l:List Dz}{p:Option Addr}{c:Nat}(h:w.ownsRow n0 96 6 (.slice p l.length c) l.length (l.flatMap JU)):w.ownsRow n0 96 6 (.slice p l.dropLast.length c) l.dropLast.length (l.dropLast.flatMap JU):=by
 have hx:=Rj h (j:=l.dropLast.length) BR
 have e:(l.flatMap JU).take (l.dropLast.length*6)=l.dropLast.flatMap JU:=by
  rcases F3 l with e|⟨a,x,e⟩;subst e;rfl;subst e;rw [Gc,Ip,List.flatMap_append,← Ra Wr a,List.take_left]
 rwa [e] at hx
theorem FS.ah(h:FS F n0 b S fv sv sn w):D5 F n0 b S w:=⟨_,_,_,h⟩
theorem D5.lt(h:D5 F n0 b S w):n0≤b∧b<w.heap.size:=by obtain ⟨_,_,_,h⟩:=h;exact h.lt
theorem D5.A(h:D5 F n0 b S w)(g:G w w'):D5 F n0 b S w':=by obtain ⟨_,_,_,h⟩:=h;exact (h.A g).ah
theorem FS.C{j:Nat}{e:AD}{l:List Bf}(h:FS F n0 b S fv sv sn w)(hg:w.grownBy w' (some j))(hB:Ax w j e l)(he:DU e=fun _=>false)(hj:n0≤j):FS F n0 b S fv sv sn w' :=
 h.ai hg fun k hk=>by injection hk with hk;subst hk;exact ⟨hj,SP hB he⟩
theorem D5.C{j:Nat}{e:AD}{l:List Bf}(h:D5 F n0 b S w)(hg:w.grownBy w' (some j))(hB:Ax w j e l)(he:DU e=fun _=>false)(hj:n0≤j):D5 F n0 b S w':=by obtain ⟨_,_,_,h⟩:=h;exact (h.C hg hB he hj).ah
theorem FS.aa{X:List Nat}{lo:Nat}{ks:List Nd}{s:Bf}(h:FS F n0 b S fv sv sn w)(hg:w.grownBy w' s.ownBlock)(hO:Dp X lo w ks s)(hj:n0≤lo):FS F n0 b S fv sv sn w' :=
 h.ai hg fun k hk=>⟨CW hj (hO.ge k hk),(hO.nd k hk).aw rfl⟩
theorem D5.aa{X:List Nat}{lo:Nat}{ks:List Nd}{s:Bf}(h:D5 F n0 b S w)(hg:w.grownBy w' s.ownBlock)(hO:Dp X lo w ks s)(hj:n0≤lo):D5 F n0 b S w':=by obtain ⟨_,_,_,h⟩:=h;exact (h.aa hg hO hj).ah
theorem FS.set(h:FS F n0 b S fv sv sn w)(hg:w.grownBy w' (some b))(hB:Ax w' b 67 (Q6 F fv sv sn S'))(hv:S'.F=S.F)(hn:S'.next=S.next):FS F n0 b S' fv sv sn w' :=
 ⟨hB,h.hb,h.kF.C hg fun k hk _ e=>by injection e with e;have:=h.hb;omega,h.hF,by rw [hv];exact Dg h.ov hg (.inr (DY h.ov h.B rfl)),by rw [hn];exact Dg h.on hg (.inr (DY h.on h.B rfl))⟩
theorem FS.a7(h:FS F n0 b S fv sv sn w)(hg:w.grownBy w1 sv.ownBlock):Ax w1 b 67 (Q6 F fv sv sn S)∧Bv w1 (fun k=>k<n0) F.j fv∧w1.ownsRow n0 3 1 sn S.next.length (S.next.map fun (k:Nat)=>Value.int .i64 (k:Int)) :=
 ⟨h.B.C hg (fun e=>DY h.ov h.B rfl e.symm),h.kF.C hg fun k hk _ e=>by have:=(QG (M:=DU) h.ov rfl k e.symm).1;omega,Dg h.on hg (Ji h.on h.ov rfl)⟩
theorem FS.a1(h:FS F n0 b S fv sv sn w)(hg:w.grownBy w1 sn.ownBlock):Ax w1 b 67 (Q6 F fv sv sn S)∧Bv w1 (fun k=>k<n0) F.j fv∧w1.ownsRow n0 96 6 sv S.F.length (S.F.flatMap JU) :=
 ⟨h.B.C hg (fun e=>DY h.on h.B rfl e.symm),h.kF.C hg fun k hk _ e=>by have:=(QG (M:=DU) h.on rfl k e.symm).1;omega,Dg h.ov hg (Ji h.ov h.on rfl)⟩
theorem FS.bb(h:FS F n0 b S fv sv sn w)(hg:w.grownBy w1 sv.ownBlock)(hO:w1.ownsRow n0 96 6 sv' S'.F.length (S'.F.flatMap JU))(aa:w1.grownBy w2 (some b))(hB:Ax w2 b 67 (Q6 F fv sv' sn S'))(hn:S'.next=S.next):FS F n0 b S' fv sv' sn w2:=by
 obtain ⟨q1,q2,q3⟩:=h.a7 hg;exact ⟨hB,h.hb,q2.C aa fun k hk _ e=>by injection e with e;have:=h.hb;omega,h.hF,Dg hO aa (.inr (DY hO q1 rfl)),by rw [hn];exact Dg q3 aa (.inr (DY q3 q1 rfl))⟩
theorem FS.bj(h:FS F n0 b S fv sv sn w)(hg:w.grownBy w1 sn.ownBlock)(hO:w1.ownsRow n0 3 1 sn' S'.next.length (S'.next.map fun (k:Nat)=>Value.int .i64 (k:Int)))(aa:w1.grownBy w2 (some b))(hB:Ax w2 b 67 (Q6 F fv sv sn' S'))(hv:S'.F=S.F):FS F n0 b S' fv sv sn' w2:=by
 obtain ⟨q1,q2,q3⟩:=h.a1 hg;exact ⟨hB,h.hb,q2.C aa fun k hk _ e=>by injection e with e;have:=h.hb;omega,h.hF,by rw [hv];exact Dg q3 aa (.inr (DY q3 q1 rfl)),Dg hO aa (.inr (DY hO q1 rfl))⟩
theorem FS.b4(h:FS F n0 b S fv sv sn w)(hg:w.grownBy w1 sn.ownBlock)(hO:w1.ownsRow n0 3 1 sn S'.next.length (S'.next.map fun (k:Nat)=>Value.int .i64 (k:Int)))(hS:S' = { S with next:=S'.next }):FS F n0 b S' fv sv sn w1:=by
 obtain ⟨q1,q2,q3⟩:=h.a1 hg;rw [hS];exact ⟨q1,h.hb,q2,h.hF,q3,hO⟩
end
theorem Zh:∀ t,count (BP t)=count t:=by
 refine Nd.ap fun t ih=>?_;rw [J7,PX,List.map_map,J7 t];congr 2;exact IH fun k hk=>ih k hk
theorem XG:∀ t,BP (BP t)=BP t:=by
 refine Nd.ap fun t ih=>?_;have hc:Ie (BP t)=Ie t:=by rw [Ie,Ie,Mu];rfl
 have hn:F1 (BP t)=F1 t:=by
  rw [F1,hc,F1];cases h:Ie t;rfl;show (BP t).num=t.num;rw [Mu];show F1 t=t.num;rw [F1,h];rfl
 rw [Mu (BP t),hn,PX,List.map_map,Mu t];show Nd.mk t.k t.o (F1 t) t.z (t.j.map (BP ∘ BP)) Az 0 0=_;exact congrArg (fun l=>Nd.mk t.k t.o (F1 t) t.z l Az 0 0) (IH fun k hk=>ih k hk)
theorem Adj(t:Nd)(w:Ae)(h0:t.j=[]):Bz An 60 #[Cd t (.slice none 0 0)] w fun r w'=>r=Cd (LW t) (.slice none 0 0)∧G w w':=by
 obtain ⟨k,x,n,a,ks,y,r,u⟩:=t;obtain rfl:ks=[]:=h0;obtain ⟨t,ht⟩:∃ t,t=Nd.mk k x n a [] y r u:=⟨_,rfl⟩;have h0:(0:Nat)=t.j.length:=by rw [ht];rfl
 rw [← ht];have g:=G.refl w;refine Cu 34 [0] Tryz.func60 ?_;refine Am (Au (CT fun b1 _ _ _ g E=>?_));refine A5 fun b2 _ _ _ g E=>?_;refine Ai (Al (Am (Au (AE FP J (AM Cb J (E.U.y J) (AE E2 J (AM DW J (E.U.y J) (Hg Cp MV (Bk J (Bk J CH)) J J (A5 fun b3 _ _ _ g E=>?_)))))))));refine AS fun _ _ _ g E=>?_;refine Ad ?_;refine DI ((by have:=Acz t none 0;rw [← h0] at this;exact this _)) (DB fun ad af g E=>?_);refine Aw (fun h1=>?_) fun h1=>?_
 ·have h1:Ie t=true:=h1
  refine AS fun ae _ _ g E=>?_;refine Ad ?_
  have B3:Ax ae b3 26 (De (LW t) (.slice none 0 0)):=by
   have h:=E.J;rw [V0,F1,h1];exact h
  replace E:=E.r0 B3;refine Ad ?_;have aa:=E.1;refine GR (fun (i:Nat) u1=>(i=0∧Ax u1 b3 26 (De (LW t) (.slice none 0 0)))∧G w u1) _ [(1,True,_),(2,True,_),(3,True,_)] (fun (i:Nat)=>[(4,True,.int .i64 i)]) (fun (i:Nat)=>0) (0) ⟨⟨rfl,E.J⟩,g⟩ (A6 (A7 E.g2) (A6 (A7 E.U) (Di _))) (Hr rfl (Hr rfl (Hr rfl (Hr rfl (M3 _))))) ?_;clear E;rintro i u1 ⟨ab,ac⟩ ⟨B1,B2,_⟩;replace B1:Ax _ _ _ _:=B1;replace B2:Ax _ _ _ _:=B2;have g:=ac;obtain ⟨hi,B3⟩:=ab;subst hi;have E:=GX (L:=[(b3,_,_),(b2,_,_),(b1,_,_)]) aa ⟨B3,B2,B1,Cc⟩ rfl;refine Aw (fun h2=>?_) fun h2=>?_
  ·exfalso;simp only [BM] at h2;omega
   done
  refine AS fun _ _ _ g E=>?_;refine AN ?_;exact ⟨rfl,g⟩
 have h1:Ie t=false:=h1;refine Ad ?_
 have B3:Ax ad b3 26 (De (LW t) (.slice none 0 0)):=by
  have h:=E.J;rw [V0,F1,h1];exact h
 replace E:=E.r0 B3;refine Ad ?_;have aa:=E.1;refine GR (fun (i:Nat) u1=>(i=0∧Ax u1 b3 26 (De (LW t) (.slice none 0 0)))∧G w u1) _ [(1,True,_),(2,True,_),(3,True,_)] (fun (i:Nat)=>[(4,True,.int .i64 i)]) (fun (i:Nat)=>0) (0) ⟨⟨rfl,E.J⟩,g⟩ (A6 (A7 E.g2) (A6 (A7 E.U) (Di _))) (Hr rfl (Hr rfl (Hr rfl (Hr rfl (M3 _))))) ?_;clear E;rintro i u1 ⟨ab,ac⟩ ⟨B1,B2,_⟩;replace B1:Ax _ _ _ _:=B1;replace B2:Ax _ _ _ _:=B2;have g:=ac;obtain ⟨hi,B3⟩:=ab;subst hi;have E:=GX (L:=[(b3,_,_),(b2,_,_),(b1,_,_)]) aa ⟨B3,B2,B1,Cc⟩ rfl;refine Aw (fun h2=>?_) fun h2=>?_
 ·exfalso;simp only [BM] at h2;omega
  done
 refine AS fun _ _ _ g E=>?_;refine AN ?_;exact ⟨rfl,g⟩
theorem vG{t:Nd}(h:((Ac (t.k=9)&&Ac (t.o=[]))&&Kc t)=true):Bx t=(Az,true):=by
 simp only [Ao] at h;unfold Bx;rw [h.2,h.1.1,h.1.2];rfl
theorem rV{t:Nd}(h:((Ac (t.k=9)&&Ac (t.o=[]))&&Kc t)=false)(h2:He t=false):Bx t=(Az,false):=by
 unfold Bx;unfold He at h2;cases h3:Kc t;rfl;rw [h3,Gq] at h;simp only [D4,AQ];cases h4:Ac (t.k=9);simp only [AQ];cases h5:Ac (t.k=8);simp only [AQ];cases h6:Ac (t.k=7);rfl;rw [h5,h6,h3] at h2;simp only [AL,AQ,Gq] at h2;rw [h2];rfl;rw [h5,h3,Gq] at h2;simp only [AL] at h2;rw [h2];rfl;rw [h4,Bool.true_and] at h;rw [h];rfl
theorem Abp{t:Nd}(h2:He t=true)(h3:Ac (t.k=8)=true):Bx t=(⟨4,t.o⟩,true):=by
 unfold He at h2;rw [h3,AL,Ao] at h2;have hk:=AH h3;unfold Bx;rw [h2.2,h3,h2.1,Aq (by omega:¬ t.k=9)];rfl
theorem M8{t:Nd}(h2:He t=true)(h3:Ac (t.k=8)=false):Bx t=(⟨Ml t.o,[]⟩,true)∧ID t.o=true:=by
 unfold He at h2;rw [h3,AQ] at h2;cases h4:Ac (t.k=7);rw [h4] at h2;cases h2;rw [h4,AL,Ao] at h2;have hk:=AH h4;unfold Bx;rw [h2.2,h3,h4,h2.1,Aq (by omega:¬ t.k=9)];exact ⟨rfl,rfl⟩
theorem NQ(t:Nd)(p:Option Addr)(c:Nat)(w:Ae):Bz An 61 #[Cd t (.slice p t.j.length c)] w fun v w'=>v = .tuple #[D7 (Bx t).1,.bool (Bx t).2]∧G w w':=by
  have g:=G.refl w
  refine Cu 59 [0] Tryz.func61 ?_
  refine CT fun _ _ _ _ g E=>?_
  refine A5 fun _ _ _ _ g E=>?_
  refine Aw (fun h1=>?_) fun h1=>?_
  · have h1:((Ac (t.k=9)&&Ac (t.o=[]))&&Kc t)=true:=h1
    refine AS fun _ _ _ g E=>?_
    refine AN ?_
    rw [vG h1];exact ⟨rfl,g⟩
  have h1:((Ac (t.k=9)&&Ac (t.o=[]))&&Kc t)=false:=h1
  refine Ad ?_
  refine DI (TN _ _ _ _) (DB fun ae af g E=>?_)
  refine Aw (fun h2=>?_) fun h2=>?_
  · (try simp only [BH] at h2)
    refine AS fun _ _ _ g E=>?_
    refine AN ?_
    rw [rV h1 (by simpa using h2)];exact ⟨rfl,g⟩
  have ad:He t=true:=by simpa using h2
  refine CJ (Al (Am (Am (Au (AE FP J (AM Cb J (E.U.y J) (Fy J J (Ai (Al (Cv J (fun h3=>?_) (fun h3=>?_)))))))))))
  · (try simp only [BH] at h3)
    refine Am (Au (AE E2 J (AM DW J (E.U.y J) (Hg FF Ia (Bk J (Bk J CH)) J J (AS fun _ _ _ g E=>?_)))))
    refine AN ?_
    rw [Abp ad h3];exact ⟨rfl,g⟩
  refine Aw (fun h4=>?_) fun h4=>?_
  · (try simp only [BH] at h4)
    refine AS fun _ _ _ g E=>?_
    refine AN ?_
    obtain ⟨e,hn⟩:=M8 ad h3
    rw [e]
    have hx:=h4
    refine ⟨?_,g⟩
    first
    | (have e2:=AH hx;rw [e2];rfl)
    | (have hm:=(Le _ _).1 hn
       simp only [II,Cj,CC,or_false] at hm
       simp only [CB] at h4 h5 h6 h7 h8 h9 ac ab aa
       have e2:t.o=[97,116,111,109,105,99]:=by simpa only [h4,h5,h6,h7,h8,h9,ac,ab,aa,false_or] using hm
       rw [e2]; rfl)
  refine Aw (fun h5=>?_) fun h5=>?_
  · (try simp only [BH] at h5)
    refine AS fun _ _ _ g E=>?_
    refine AN ?_
    obtain ⟨e,hn⟩:=M8 ad h3
    rw [e]
    have hx:=h5
    refine ⟨?_,g⟩
    first
    | (have e2:=AH hx;rw [e2];rfl)
    | (have hm:=(Le _ _).1 hn
       simp only [II,Cj,CC,or_false] at hm
       simp only [CB] at h4 h5 h6 h7 h8 h9 ac ab aa
       have e2:t.o=[97,116,111,109,105,99]:=by simpa only [h4,h5,h6,h7,h8,h9,ac,ab,aa,false_or] using hm
       rw [e2]; rfl)
  refine Aw (fun h6=>?_) fun h6=>?_
  · (try simp only [BH] at h6)
    refine AS fun _ _ _ g E=>?_
    refine AN ?_
    obtain ⟨e,hn⟩:=M8 ad h3
    rw [e]
    have hx:=h6
    refine ⟨?_,g⟩
    first
    | (have e2:=AH hx;rw [e2];rfl)
    | (have hm:=(Le _ _).1 hn
       simp only [II,Cj,CC,or_false] at hm
       simp only [CB] at h4 h5 h6 h7 h8 h9 ac ab aa
       have e2:t.o=[97,116,111,109,105,99]:=by simpa only [h4,h5,h6,h7,h8,h9,ac,ab,aa,false_or] using hm
       rw [e2]; rfl)
  refine Aw (fun h7=>?_) fun h7=>?_
  · (try simp only [BH] at h7)
    refine AS fun _ _ _ g E=>?_
    refine AN ?_
    obtain ⟨e,hn⟩:=M8 ad h3
    rw [e]
    have hx:=h7
    refine ⟨?_,g⟩
    first
    | (have e2:=AH hx;rw [e2];rfl)
    | (have hm:=(Le _ _).1 hn
       simp only [II,Cj,CC,or_false] at hm
       simp only [CB] at h4 h5 h6 h7 h8 h9 ac ab aa
       have e2:t.o=[97,116,111,109,105,99]:=by simpa only [h4,h5,h6,h7,h8,h9,ac,ab,aa,false_or] using hm
       rw [e2]; rfl)
  refine Aw (fun h8=>?_) fun h8=>?_
  · (try simp only [BH] at h8)
    refine AS fun _ _ _ g E=>?_
    refine AN ?_
    obtain ⟨e,hn⟩:=M8 ad h3
    rw [e]
    have hx:=h8
    refine ⟨?_,g⟩
    first
    | (have e2:=AH hx;rw [e2];rfl)
    | (have hm:=(Le _ _).1 hn
       simp only [II,Cj,CC,or_false] at hm
       simp only [CB] at h4 h5 h6 h7 h8 h9 ac ab aa
       have e2:t.o=[97,116,111,109,105,99]:=by simpa only [h4,h5,h6,h7,h8,h9,ac,ab,aa,false_or] using hm
       rw [e2]; rfl)
  refine Aw (fun h9=>?_) fun h9=>?_
  · (try simp only [BH] at h9)
    refine AS fun _ _ _ g E=>?_
    refine AN ?_
    obtain ⟨e,hn⟩:=M8 ad h3
    rw [e]
    have hx:=h9
    refine ⟨?_,g⟩
    first
    | (have e2:=AH hx;rw [e2];rfl)
    | (have hm:=(Le _ _).1 hn
       simp only [II,Cj,CC,or_false] at hm
       simp only [CB] at h4 h5 h6 h7 h8 h9 ac ab aa
       have e2:t.o=[97,116,111,109,105,99]:=by simpa only [h4,h5,h6,h7,h8,h9,ac,ab,aa,false_or] using hm
       rw [e2]; rfl)
  refine Aw (fun ac=>?_) fun ac=>?_
  · (try simp only [BH] at ac)
    refine AS fun _ _ _ g E=>?_
    refine AN ?_
    obtain ⟨e,hn⟩:=M8 ad h3
    rw [e]
    have hx:=ac
    refine ⟨?_,g⟩
    first
    | (have e2:=AH hx;rw [e2];rfl)
    | (have hm:=(Le _ _).1 hn
       simp only [II,Cj,CC,or_false] at hm
       simp only [CB] at h4 h5 h6 h7 h8 h9 ac ab aa
       have e2:t.o=[97,116,111,109,105,99]:=by simpa only [h4,h5,h6,h7,h8,h9,ac,ab,aa,false_or] using hm
       rw [e2]; rfl)
  refine Aw (fun ab=>?_) fun ab=>?_
  · (try simp only [BH] at ab)
    refine AS fun _ _ _ g E=>?_
    refine AN ?_
    obtain ⟨e,hn⟩:=M8 ad h3
    rw [e]
    have hx:=ab
    refine ⟨?_,g⟩
    first
    | (have e2:=AH hx;rw [e2];rfl)
    | (have hm:=(Le _ _).1 hn
       simp only [II,Cj,CC,or_false] at hm
       simp only [CB] at h4 h5 h6 h7 h8 h9 ac ab aa
       have e2:t.o=[97,116,111,109,105,99]:=by simpa only [h4,h5,h6,h7,h8,h9,ac,ab,aa,false_or] using hm
       rw [e2]; rfl)
  refine Aw (fun aa=>?_) fun aa=>?_
  · (try simp only [BH] at aa)
    refine AS fun _ _ _ g E=>?_
    refine AN ?_
    obtain ⟨e,hn⟩:=M8 ad h3
    rw [e]
    have hx:=aa
    refine ⟨?_,g⟩
    first
    | (have e2:=AH hx;rw [e2];rfl)
    | (have hm:=(Le _ _).1 hn
       simp only [II,Cj,CC,or_false] at hm
       simp only [CB] at h4 h5 h6 h7 h8 h9 ac ab aa
       have e2:t.o=[97,116,111,109,105,99]:=by simpa only [h4,h5,h6,h7,h8,h9,ac,ab,aa,false_or] using hm
       rw [e2]; rfl)
  refine AS fun _ _ _ g E=>?_
  refine AN ?_
  obtain ⟨e,hn⟩:=M8 ad h3
  rw [e]
  have hx:=aa
  refine ⟨?_,g⟩
  first
  | (have e2:=AH hx;rw [e2];rfl)
  | (have hm:=(Le _ _).1 hn
     simp only [II,Cj,CC,or_false] at hm
     simp only [CB] at h4 h5 h6 h7 h8 h9 ac ab aa
     have e2:t.o=[97,116,111,109,105,99]:=by simpa only [h4,h5,h6,h7,h8,h9,ac,ab,aa,false_or] using hm
     rw [e2]; rfl)
theorem nB(t:Nd)(name:List UInt8)(v:Bf)(D:Nat→Prop)(w:Ae)(hk:Bv w D t.j v)(hc:count t≤1000000):Bz An 163 #[Cd t v,Cg name] w fun r w'=>cN (F8 t name) r w'∧G w w':=by
 obtain ⟨p,c,rfl,br,bk⟩:=hk;have g:=G.refl w;have bp:=ED t;refine Cu 73 [0,1] Tryz.func163 ?_;refine CT fun _ w2 _ _ g E=>?_;refine Ad ?_;refine Hi (fun (i:Nat) u1=>(i≤t.j.length∧∀ j,(hj:j<t.j.length)→j<i→Kk name t.j[j]=false)∧G w2 u1) [(1,True,_),(2,True,_)] (fun (i:Nat)=>[(6,True,.int .i64 i)]) (fun (i:Nat)=>t.j.length-i) (0) ⟨⟨Cq _,fun j _ hj=>absurd hj (Nat.not_lt_zero j)⟩,G.refl _⟩ Bp ?_;rintro i u1 ⟨am,aa⟩;have g:=g.trans aa;replace E:=E.A aa;refine Am (Am (Au (Ap J (AE AY J (AM Bh J (E.J.y J) (EI AC J (GG J J (Ai (Al (Cv J (fun h1=>?_) (fun h1=>?_)))))))))));have h1:i<t.j.length:=by simp only [BM] at h1;omega
 obtain ⟨b,o,rfl,hD,xs,hR,hX⟩:=bk O;obtain ⟨p',c',hcell,az⟩:=JD hR hX h1;have bv:=KG h1;have b3:=ED t.j[i];refine CJ (Al (Am (DF (Am (Au (AE AY J (AM Bh J (E.J.y J) (Ap J (Hn AC J J O (Ct A3 J J (hcell.A g) (A5 fun _ _ ga _ g E=>?_)))))))))));have a6:=ga.ge aa;have aa:=aa.trans (ga.g);refine AS fun a1 ga _ g E=>?_;first|replace aa:=BJ aa ga O|clear aa|skip
 refine Aw (fun h2=>?_) fun h2=>?_;have h2:(!Ac (t.j[i].k=2) || !Ac (t.j[i].o=name))=true:=h2;refine Ad ?_;refine Ci [6,1,2] ?_;refine Ai (fun a ha=>?_)
 exact ⟨i+1,ha,⟨⟨h1,fun j ba hj=>by
  by_cases e:j=i;subst e;unfold Kk;rw [h2];rfl;exact am.2 j ba O⟩,aa⟩,O⟩
 have h2:(!Ac (t.j[i].k=2) || !Ac (t.j[i].o=name))=false:=h2;have hf:=bB h1 am.2 (by unfold Kk;rw [h2];rfl)
 have hN:F8 t name=match HV G5 t.j[i].j with
  | none=>([],false)
  | some l=>(l,true):=by unfold F8;rw [hf];try rfl
 obtain ⟨p2,c2,hpe,bn,av⟩:=az;injection hpe with hpe _ bj;subst hpe bj;have Ga:=E.U.lt;have bt:=E.J.lt;refine Ad ?_;refine Hi (fun (x:Nat×Option Addr×Nat×List JI) u2=>match x with|⟨k,a,ca,l⟩=>(k≤t.j[i].j.length∧HV G5 (t.j[i].j.take k)=some l∧u2.ownsRow a1.heap.size 134 3 (.slice a l.length ca) l.length (l.flatMap KY))∧G a1 u2) [(1,True,_),(2,True,_),(6,True,_),(7,True,_)] (fun (x:Nat×Option Addr×Nat×List JI)=>match x with|⟨k,a,ca,l⟩=>[(8,True,.slice a l.length ca),(9,True,.int .i64 k)]) (fun (x:Nat×Option Addr×Nat×List JI)=>match x with|⟨k,a,ca,l⟩=>t.j[i].j.length-k) ((0,none,0,[])) ⟨⟨Cq _,rfl,J5 _ _ _ _⟩,G.refl _⟩ Bp ?_;rintro ⟨k,a,ca,l⟩ u2 ⟨a8,ab⟩;have g:=g.trans ab;have aa:=aa.trans ab;replace E:=E.A ab;obtain ⟨hk,hm,hO⟩:=a8;have bi:=Sc G5 _ _ hm;rw [DQ] at bi;refine Am (Am (Au (Ap J (AE AY J (AM Bh J (E.J.y J) (EI AC J (GG J J (Ai (Al (Cv J (fun h3=>?_) (fun h3=>?_)))))))))));have h3:k<t.j[i].j.length:=by simp only [BM] at h3;omega
 obtain ⟨b2,o2,rfl,bz,bs,bg,a7⟩:=av O;obtain ⟨p3,c3,aj,an⟩:=JD bg a7 h3;have bq:=KG h3;refine CJ (Al (Am (DF (Am (Au (AE AY J (AM Bh J (E.J.y J) (Ap J (Hn AC J J O (Ct A3 J J (aj.A g) (?_)))))))))));have al:=fun k hk=>(hO.lt k hk).2;refine A5 fun bo _ ad _ g E=>?_;have a5:=ad.ge aa;have ar:=ad.ge ab;have aa:=aa.trans (ad.g);have ab:=ab.trans (ad.g);have hO:=Ef hO (ad.g);have a2:(AJ a l.length ca).ownBlock≠some bo:=fun h=>by have:=al _ h;have:=ad.y;omega
 refine AS fun _ ga _ g E=>?_;first|replace aa:=BJ aa ga O|clear aa|skip
 first|replace ab:=BJ ab ga O|clear ab|skip
 have hO:=Dg hO ga (.inr a2);refine Aw (fun h4=>?_) fun h4=>?_;have h4:(!Ac (t.j[i].j[k].k=3) || !Ac ((t.j[i].j[k].j.length:Int)=1))=true:=h4;have ah:=RI G5 _ _ (Ez h3) (by unfold G5;rw [h4];rfl);refine Am (Au (Bj J (Bj J (Ai (Al (Dl (Ql (ts:=[4,5]) (vs:=[_,_]) J J J ?_)))))));rw [hN,ah];exact ⟨⟨_,rfl,PQ _⟩,g⟩;have h4:(!Ac (t.j[i].j[k].k=3) || !Ac ((t.j[i].j[k].j.length:Int)=1))=false:=h4
 have a9:t.j[i].j[k].j.length=1:=by
  simp only [Iz,Bool.not_eq_false',BM] at h4;omega
 obtain ⟨bm,ek⟩:=aQ a9;obtain ⟨p4,c4,af,_,ay⟩:=an;injection af with af _ au;subst af au;obtain ⟨b4,o4,rfl,bu,b5,bf,bb⟩:=ay O;obtain ⟨p5,c5,ai,_⟩:=JD bf bb bm;refine CJ (Al (Am (Au (AE AY J (AM Bh J (E.J.y J) (AR J (fun _=>KQ AC (Ab J) Bd (fun _=>by show (0:Int)≤0∧(0:Int)<((t.j[i].j[k].j.length:Nat):Int);omega)) (Ct A3 J J (ai.A g) (F0 J (BF U7 BX (Cn J CI) J) (NQ _ _ _ _) (fun bw ag=>?_)))))))));have g:=g.trans ag;have aa:=aa.trans (ag);have ab:=ab.trans (ag);replace E:=E.A ag;have hO:=Ef hO (ag);refine Ad ?_;have ao:=fun k hk=>(hO.lt k hk).2;refine A5 fun bh _ ac _ g E=>?_;have a3:=ac.ge aa;have a4:=ac.ge ab;have aa:=aa.trans (ac.g);have ab:=ab.trans (ac.g);have hO:=Ef hO (ac.g);have ax:(AJ a l.length ca).ownBlock≠some bh:=fun h=>by have:=ao _ h;have:=ac.y;omega
 refine AS fun _ ga _ g E=>?_;first|replace aa:=BJ aa ga O|clear aa|skip
 first|replace ab:=BJ ab ga O|clear ab|skip
 have hO:=Dg hO ga (.inr ax);refine Aw (fun h5=>?_) fun h5=>?_;have h5:(!(Bx t.j[i].j[k].j[0]).2)=true:=h5;have ah:=RI G5 _ _ (Ez h3) (by unfold G5;rw [h4,ek];simp only [Bool.not_eq_true'] at h5;rw [h5];rfl);refine Am (Au (Bj J (Bj J (Ai (Al (Dl (Ql (ts:=[4,5]) (vs:=[_,_]) J J J ?_)))))));rw [hN,ah];exact ⟨⟨_,rfl,PQ _⟩,g⟩;have h5:(!(Bx t.j[i].j[k].j[0]).2)=false:=h5;have ap:G5 t.j[i].j[k]=some ⟨t.j[i].j[k].o,(Bx t.j[i].j[k].j[0]).1⟩:=by unfold G5;rw [h4,ek];simp only [Bool.not_eq_false'] at h5;rw [h5];rfl
 refine CJ (Al (Au (Ap J (AE E2 J (AM DW J (E.U.y J) (Ct Cf J J E.J.row (Hg PK Ve (Bk J (Bk J CH)) J J (Ck fun _ _ ga _ g E=>?_))))))));have aw:=ga.ge aa;have aq:=ga.ge ab;have ab:=ab.trans (ga.g);have hO:=Ef hO (ga.g);refine Ja J QF PK J BT (Ab J) hO (Ab J) J E.J.row J (by simp only [maxLen];omega) O (by have:=ab.size;omega) ?_;intro a' c' b1 bc ae b0;have ak:=fun k hk=>(hO.lt k hk).1;have g:=Nj g ae (fun k hk=>by have:=ak k hk;omega);replace ab:=Nj ab ae ak;replace E:=E.sel [false,false,false,true,true];replace E:=E.C ae (IM.2 ⟨((fun he=>by have:=ak _ he.symm;omega)),IM.2 ⟨((fun he=>by have:=ak _ he.symm;omega)),List.forall_mem_nil _⟩⟩);have be:=Zu ⟨t.j[i].j[k].o,(Bx t.j[i].j[k].j[0]).1⟩ bc;refine Ad ?_;refine Ci [8,9,1,2,6,7] ?_;refine Ai (fun a ha=>?_);refine ⟨(k+1,a',c',l++[⟨t.j[i].j[k].o,(Bx t.j[i].j[k].j[0]).1⟩]),?_,⟨⟨h3,bD h3 hm ap,be⟩,ab⟩,by show t.j[i].j.length-(k+1)<t.j[i].j.length-k;omega⟩;simpa using ha;have h3:k=t.j[i].j.length:=by simp only [CB] at h3;omega
 subst h3;rw [EY] at hm;refine AN ?_;rw [hN,hm];exact ⟨⟨_,rfl,dK hO⟩,g⟩;have h1:i=t.j.length:=by simp only [CB] at h1;omega
 subst h1;refine AN ?_;have hN:F8 t name=([],false):=by unfold F8;rw [eK fun j hj=>am.2 j hj O]
 rw [hN];exact ⟨⟨_,rfl,PQ _⟩,g⟩
theorem xE(t:Nd)(name:List UInt8)(hc:count t≤1000000):(F8 t name).1.length≤1000000:=by
 unfold F8
 cases hf:t.j.find? (Kk name) with
 | none=>exact Cq _
 | some d =>
  cases hm:HV G5 d.j with
  | none=>simp only [hm];exact Cq _
  | some l =>
   simp only [hm];have:=Sc G5 _ _ hm;have:=MW (Ju hf);have:=ED d;omega
theorem F4{F:Nd}{n0 b:Nat}{S:Ak}{w:Ae}(a e:Int)(h:D5 F n0 b S w):Bz An 33 #[.pointer (some ⟨b,0,none⟩),.int .i64 a,.int .i64 e] w fun r w'=>r = .tuple #[]∧D5 F n0 b (DV a e S) w'∧AP DU n0 w w':=by
 obtain ⟨fv,sv,sn,h⟩:=h;have g:=AP.refl DU n0 w;refine Cu 19 [0,1,2] Tryz.func33 ?_;refine Aw (fun h1=>?_) fun h1=>?_;(try simp only [BH] at h1);refine Ad ?_;refine Df J I2 (Ab J) (Ab J) J J h.B J J ?_;intro wA ab ac BA;have g:=JC g ab h.B rfl h.hb;have h:=h.set (S':={ S with ea:=a }) ab BA rfl rfl;refine Ad ?_;refine Df J SL (Ab J) (Ab J) J J h.B J J ?_;intro wC aa ad BC;have g:=JC g aa h.B rfl h.hb;have h:=h.set (S':={ S with ea:=a,ee:=e }) aa BC rfl rfl;refine Ai (Hh J ?_);refine ⟨rfl,?_,g⟩;unfold DV;rw [h1];exact h.ah;refine CJ (Hh J ?_);refine ⟨rfl,?_,g⟩;unfold DV;rw [h1];exact h.ah
theorem Is(t:Nd)(p:Option Addr)(c:Nat)(w:Ae):Bz An 34 #[Cd t (.slice p t.j.length c)] w fun r w'=>r=Cd (DJ t) (.slice none 0 0)∧G w w':=by
 have g:=G.refl w;refine Cu 16 [0] Tryz.func34 ?_;refine Am (Au (CT fun _ _ _ _ g E=>?_));refine A5 fun _ _ _ _ g E=>?_;refine Ai (Al (Am (Au (AE FP J (AM Cb J (E.U.y J) (AE E2 J (AM DW J (E.U.y J) (AE Ku J (AM Cb J (E.U.y J) (Hg Cp MV (Bk J (Bk J (Bk J CH))) J J (AO (Adj (.mk t.k t.o t.num 0 [] Az 0 0) _ J) ?_)))))))))));rintro _ _ ⟨rfl,ga⟩;refine A4 fun g E=>?_;refine A5 fun b3 _ _ _ g E=>?_;refine AS fun _ _ _ g E=>?_;refine AS fun aa _ _ g E=>?_;refine Ad ?_
 have B3:Ax aa b3 26 (De (DJ t) (.slice none 0 0)):=by
  have h:=E.J;rw [V0] at h;exact h
 replace E:=E.r0 B3;refine AS fun _ _ _ g E=>?_;refine AN ?_;exact ⟨rfl,g⟩
theorem Aan:∀ (t:Nd) (v:Bf) (D:Nat→Prop) (w:Ae),Bv w D t.j v→count t≤1000000→Bz An 35 #[Cd t v] w fun r w'=>Ii (BP t) w.heap.size r w'∧G w w':=by
 refine Nd.ap fun t ih v D w hk hc=>?_;have an:=ED t;obtain ⟨p,c,rfl,ao,ak⟩:=hk;have g:=G.refl w;refine Cu 26 [0] Tryz.func35 ?_;refine CT fun b1 _ _ _ g E=>?_;refine A5 fun b2 _ _ _ g E=>?_;refine Ad ?_;refine AO (Is t _ _ _) ?_;rintro _ _ ⟨rfl,ga⟩;refine A4 fun g E=>?_;refine A5 fun b3 _ _ _ g E=>?_;refine AS fun am _ _ g E=>?_;refine Ad ?_
 have B3:Ax am b3 26 (De (BP t) (.slice none 0 0)):=by
  have h:=E.J;rw [U1];exact h
 replace E:=E.r0 B3;refine Ad ?_;have af:=E.1;refine GR (fun (i:Nat) u1=>(i≤t.j.length∧∃ s,Ax u1 b3 26 (De (BP t) s)∧Dp [b1,b2,b3] w.heap.size u1 ((t.j.take i).map BP) s)∧G w u1) _ [(1,True,_),(2,True,_),(3,True,_)] (fun (i:Nat)=>[(4,True,.int .i64 i)]) (fun (i:Nat)=>t.j.length-i) (0) ⟨⟨Cq _,_,E.J,Kr _ _ _⟩,g⟩ (A6 (A7 E.g2) (A6 (A7 E.U) (Di _))) Bp ?_;clear E;rintro i u1 ⟨al,aj⟩ ⟨B1,B2,_⟩;replace B1:Ax _ _ _ _:=B1;replace B2:Ax _ _ _ _:=B2;have g:=aj;obtain ⟨hi,s,B3,hO⟩:=al;obtain ⟨sa,sc,rfl⟩:=hO.slice;have E:=GX (L:=[(b3,_,_),(b2,_,_),(b1,_,_)]) af ⟨B3,B2,B1,Cc⟩ rfl;refine Aw (fun h1=>?_) fun h1=>?_;have h2:i<t.j.length:=by simp only [BM] at h1;omega
 obtain ⟨b,o,rfl,hD,xs,hR,hX⟩:=ak O;obtain ⟨p',c',hcell,ai⟩:=JD hR hX h2;have aq:=KG h2;have av:=ED t.j[i];have hu:=g.size;refine CJ (Al (Am (DF (Dj [3,0,3,0,3,3,0,1,1,2,3,2] ?_))));refine FY fun g E=>?_;have hO:=hO.A (G.drew _);have ac:=E.g2.lt;have ae:=E.U.lt;have ab:=E.J.lt;have ag:=hO.lt;refine AE AY J (AM Bh J (E.J.y J) (AE AY J (AM Bh J (E.g2.y J) (Ap J (Hn AC J J O (Ct A3 J J (hcell.A g) (AO (ih _ (Ez h2) _ _ _ (ai.A g) O) ?_)))))));rintro _ _ ⟨⟨p2,c2,rfl,ad⟩,ga⟩;refine A4 fun g E=>?_;have hO:=AV hO;refine Ck fun _ _ ah _ g E=>?_;have hO:=hO.A (ah.g);have ad:=ad.A ah.g;have hOo:=hO;refine Hx J AC Cp J (Ab J) hO (Ab J) J E.J.row (DG (ad.mono fun k hk _=>⟨⟨⟨by have:u1.heap.size≤k:=hk.1;omega,by have:u1.heap.size≤k:=hk.1;have:=ac;have:=ae;have:=ab;simp;omega⟩,hk.2⟩,fun he=>by have:=ag k he.symm;have:u1.heap.size≤k:=hk.1;omega⟩)) (by simp;omega) Dn ⟨by have:=g.size;omega,by have q1:=E.g3.lt;have q2:=E.g2.lt;have q3:=E.U.lt;simp;omega⟩ ?_;intro au ap ar hO aa;replace E:=E.sel [false,true,true,true];replace E:=E.ab aa hOo.ne Br;have g:=Nj g aa Fo;refine AS fun _ ga _ g E=>?_;have hO:=AK hO;refine Ad ?_;refine Ci [4,1,2,3] ?_;refine Ai (fun a ha=>?_);exact ⟨i+1,ha,⟨⟨h2,_,E.J,by rw [SM h2,List.map_append];exact hO⟩,g⟩,(A6 (A7 E.g2) (A6 (A7 E.U) (Di _))),O⟩
 have h2:i=t.j.length:=by simp only [CB] at h1;omega
 subst h2;rw [EY] at hO E;refine AS fun _ ga _ g E=>?_;have hO:=AK hO;refine AN ?_;exact ⟨TV (by rw [PX];exact hO.kd),g⟩
theorem Lt(F:Nd)(v:Bf)(D:Nat→Prop)(w:Ae)(kd:Int)(s:List UInt8)(hk:Bv w D F.j v)(hc:count F≤1000000):Bz An 39 #[Cd F v,.int .i64 kd,Cg s] w fun r w'=>(∃ p c,r = .tuple #[Cd (A9 F kd s).1 (.slice p (A9 F kd s).1.j.length c),.int .i64 (A9 F kd s).2]∧Bv w' D (A9 F kd s).1.j (.slice p (A9 F kd s).1.j.length c))∧G w w':=by
 obtain ⟨p,c,rfl,ae,ac⟩:=hk;have af:=ED F;have g:=G.refl w;refine Cu 42 [0,1,2] Tryz.func39 ?_;refine CT fun _ _ _ _ g E=>?_;refine A5 fun _ w6 _ _ g E=>?_;refine Bj rfl (Ai (Al (Am (Au (Bj rfl (Ai (Al (Am (Am (Au (Bj rfl (Ai (Al (DF (Hi (fun (x:Nat×Nat) u1=>match x with|⟨i,k⟩=>(i≤F.j.length∧k≤i∧A9 F kd s=GI kd s (F.j.drop i) k)∧G w6 u1) [(1,True,_),(2,True,_),(3,True,_),(6,True,_)] (fun (x:Nat×Nat)=>match x with|⟨i,k⟩=>[(8,True,.int .i64 k),(9,True,.int .i64 i)]) (fun (x:Nat×Nat)=>match x with|⟨i,k⟩=>F.j.length-i) (0,0) ⟨⟨Cq _,AA _,rfl⟩,G.refl _⟩ (Hr rfl (Hr rfl (Hr rfl (Hr rfl (Hr rfl (Hr rfl (M3 _))))))) ?_)))))))))))))));rintro ⟨i,k⟩ u1 ⟨ad,aa⟩;have g:=g.trans aa;replace E:=E.A aa;obtain ⟨hi,ag,hF⟩:=ad;refine Am (Am (Au (Ap J (AE AY J (AM Bh J (E.U.y J) (EI AC J (GG J J (Ai (Al (Cv J (fun h1=>?_) (fun h1=>?_)))))))))));have h1:i<F.j.length:=by simp only [BM] at h1;omega
 obtain ⟨b,o,rfl,hD,xs,hR,hX⟩:=ac O;obtain ⟨p',c',hcell,ab⟩:=JD hR hX h1;rw [Jz h1,GI] at hF;refine CJ (Al (Am (DF (Am (Am (Au (AE AY J (AM Bh J (E.U.y J) (Ap J (Hn AC J J O (AE FP J (AM Cb J ((hcell.A g).one (i:=0) J) (Ap J (MH J J (Ai (Al (Cv J (fun h2=>?_) (fun h2=>?_))))))))))))))))));have hq:Ac (F.j[i].k=kd)=false:=by simpa using h2
 rw [hq,AQ] at hF;refine L7 J (Al (Au (Ap J (H2 J J O (Bj J (EV [(8,_,_),(9,_,_),(1,_,_),(2,_,_),(3,_,_),(6,_,_)] Bp (Ai (fun a ha=>?_))))))));exact ⟨(i+1,k),ha,⟨⟨h1,O,hF⟩,aa⟩,by show _-(i+1)<_-i;omega⟩;have hq:Ac (F.j[i].k=kd)=true:=by simpa using h2
 rw [hq,AL] at hF;refine CJ (Al (Am (Am (Au (AE AY J (AM Bh J (E.U.y J) (Ap J (Hn AC J J O (AE E2 J (AM DW J ((hcell.A g).one (i:=1) J) (Ap J (MD J J (Ai (Al (Cv J (fun h3=>?_) (fun h3=>?_))))))))))))))));rw [h3,AL] at hF;refine Am (Au (AE AY J (AM Bh J (E.U.y J) (Ap J (Hn AC J J O (Ct A3 J J (hcell.A g) (Ap J (AS fun _ ga _ g E=>?_))))))));first|replace aa:=BJ aa ga O|clear aa|skip
 refine AN ?_;rw [hF];exact ⟨⟨p',c',rfl,ab.A g⟩,g⟩;rw [h3,AQ] at hF;refine Ad ?_;refine Ci [8,9,1,2,3,6] ?_;refine Ai (fun a ha=>?_);exact ⟨(i+1,k+1),ha,⟨⟨h1,O,hF⟩,aa⟩,by show _-(i+1)<_-i;omega⟩;have h1:i=F.j.length:=by simp only [CB] at h1;omega
 rw [List.drop_of_length_le O,GI] at hF;refine AS fun _ ga _ g E=>?_;first|replace aa:=BJ aa ga O|clear aa|skip
 refine AN ?_;rw [hF];exact ⟨⟨none,0,rfl,Ob _ _⟩,g⟩
theorem Wa{F:Nd}{n0 b:Nat}{S:Ak}{w:Ae}(t:Nd)(p:Option Addr)(c:Nat)(h:D5 F n0 b S w):Bz An 37 #[.pointer (some ⟨b,0,none⟩),Cd t (.slice p t.j.length c)] w fun r w'=>r = .tuple #[]∧D5 F n0 b (I5 F t S) w'∧AP DU n0 w w':=by
 obtain ⟨fv,sv,sn,h⟩:=h;have ag:=h.lt;have g:=AP.refl DU n0 w;refine Cu 25 [0,1] Tryz.func37 ?_;refine CT fun _ _ ga _ g E=>?_;have h:=Ar h;refine Aw (fun h1=>?_) fun h1=>?_;(try simp only [BH] at h1);refine Ad ?_;refine Dx (Ej none) [3,3,3,0,3,0,1,3,3,3,1,2,3] [0,1,3,7,0,16,63,127,255,255,0,1535,4095] CG Ag [0,1,2,3,4,5,6,7,8,9,10,11,12] J ?_;refine Da fun g E h=>?_;refine As 0 J J (Bm J) (As 1 J J (fun _=>FZ (Ab J)) (As 2 J J (fun _=>AB OC (Ab J)) (Bb 3 J J (fun w1 hx=>A8 A3 (Ab J) J (fun _=>(h.B.C hx (by intro q;first|(injection q with q;omega)|cases q)).row.part 0 9)) (As 4 J J (fun _=>AB E2 (Ab J)) (Bb 5 J J (fun w1 hx=>AZ DW (Ab J) (fun _=>(E.J.C hx DD).y J)) (Lx 6 10 J J ?_ ?_))))));refine Bt (L':=[7,8,9,10,11,12]) [3,3,3,0,3,0,1,3,3,3,1,2,3] rfl rfl rfl ?_;refine AO (Lt F fv _ _ 2 t.o h.kF h.hF) ?_;rintro af ad ⟨⟨ac,ae,rfl,ab⟩,aa⟩;refine ⟨fun _=>aa,?_⟩;have g:=BZ g aa;replace E:=E.A aa;have h:=h.A (aa);refine Bs ((aa).O _) ?_;refine As 7 J J (Bm J) (As 8 J J (fun _=>Gr (Ab J) J) (As 9 J J (fun _=>Gr (Ab J) J) (AW 10 J J ?_)));refine Bt (L':=[11,12]) [3,3,3,0,3,0,1,3,3,3,1,2,3] J J J ?_;refine A5 fun _ _ N4 l4 g E=>?_;have h:=h.A (N4.g);refine Bs ((N4.g).O _) ?_;refine AW 11 J J ?_;refine DN (L':=[12]) [3,3,3,0,3,0,1,3,3,3,1,2,3] J J J J ?_;refine AX fun _ ga Ca g E h=>?_;refine DL ?_;refine As 12 J J (fun _=>Fj (Ab J)) (Dt [0,3,5] (FW (Al (Am (Au (Ap J (GG J J (Ai (Al (Cv J (fun h2=>?_) (fun h2=>?_)))))))))));(try simp only [BH] at h2);refine Ad ?_
 refine AO (F4 t.z 5 h.ah) ?_;rintro _ _ ⟨rfl,h,ga⟩;refine A4 fun g E=>?_;refine Ai (Hh J ?_);refine ⟨rfl,?_,g⟩;unfold I5 AG;simp only [h1,h2,AL,AQ,D4,E0];first|exact h|exact h.ah
 refine CJ (Hh J ?_);refine ⟨rfl,?_,g⟩;unfold I5 AG;simp only [h1,h2,AL,AQ,D4,E0];first|exact h|exact h.ah
 refine Bt (L':=[6,7,8,9,11,12]) [3,3,3,0,3,0,1,3,3,3,1,2,3] rfl rfl rfl ?_;refine A5 fun _ _ N4 _ g E=>?_;have h:=h.A (N4.g);refine Bs ((N4.g).O _) ?_;refine AW 6 J J ?_;refine Bt (L':=[7,8,9,11,12]) [3,3,3,0,3,0,1,3,3,3,1,2,3] J J J ?_;refine AO (Lt F fv _ _ 2 t.o h.kF h.hF) ?_;rintro af ad ⟨⟨ac,ae,rfl,ab⟩,aa⟩;refine ⟨fun _=>aa,?_⟩;have g:=BZ g aa;replace E:=E.A aa;have h:=h.A (aa);refine Bs ((aa).O _) ?_;refine As 7 J J (Bm J) (As 8 J J (fun _=>Gr (Ab J) J) (As 9 J J (fun _=>Gr (Ab J) J) (AW 11 J J ?_)));refine DN (L':=[12]) [3,3,3,0,3,0,1,3,3,3,1,2,3] J J J J ?_;refine AX fun _ ga Ca g E h=>?_;refine DL ?_;refine As 12 J J (fun _=>Fj (Ab J)) (Dt [0,3,5] (FW (Al (Am (Au (Ap J (GG J J (Ai (Al (Cv J (fun h2=>?_) (fun h2=>?_)))))))))));(try simp only [BH] at h2);refine Ad ?_;refine AO (F4 t.z 5 h.ah) ?_;rintro _ _ ⟨rfl,h,ga⟩;refine A4 fun g E=>?_;refine Ai (Hh J ?_);refine ⟨rfl,?_,g⟩;unfold I5 AG;simp only [h1,h2,AL,AQ,D4,E0];first|exact h|exact h.ah
 refine CJ (Hh J ?_);refine ⟨rfl,?_,g⟩;unfold I5 AG;simp only [h1,h2,AL,AQ,D4,E0];first|exact h|exact h.ah
 refine CJ (Hh J ?_);refine ⟨rfl,?_,g⟩;unfold I5 AG;simp only [h1,AL,AQ,D4,E0];first|exact h|exact h.ah
theorem W6{F:Nd}{n0 b:Nat}{S:Ak}{w:Ae}(t:Nd)(p:Option Addr)(c:Nat)(h:D5 F n0 b S w):Bz An 63 #[.pointer (some ⟨b,0,none⟩),Cd t (.slice p t.j.length c)] w fun r w'=>r=D7 (Bx t).1∧D5 F n0 b (DS F t S) w'∧AP DU n0 w w':=by
 have ac:=h.lt;have g:=AP.refl DU n0 w;refine Cu 23 [0,1] Tryz.func63 ?_;refine CT fun _ _ ga _ g E=>?_;have h:=Ar h;refine A5 fun _ _ ga _ g E=>?_;have h:=Ar h;refine Ad ?_;refine AO (Wa t _ _ h) ?_;rintro _ _ ⟨rfl,h,ga⟩;refine A4 fun g E=>?_;refine Ad ?_;refine DI (NQ t _ _ _) (fun ad ab=>?_);have g:=BZ g ab;replace E:=E.A ab;have h:=h.A (ab);refine A5 fun _ _ ga _ g E=>?_;have h:=Ar h;refine AX fun _ ga Ca g E h=>?_;refine Ad ?_;refine DI (PV _ _) (fun ae aa=>?_);have g:=BZ g aa;replace E:=E.A aa;have h:=h.A (aa);refine Aw (fun h1=>?_) fun h1=>?_;have hv:E4 (Bx t).1=false:=by simpa using h1
 refine Ad ?_;refine AO (F4 t.z 7 h) ?_;rintro _ _ ⟨rfl,h,ga⟩;refine A4 fun g E=>?_;refine AX fun _ ga Ca g E h=>?_;refine AN ?_;refine ⟨rfl,?_,g⟩;unfold DS AG;rw [hv];exact h;have hv:E4 (Bx t).1=true:=by simpa using h1
 refine AX fun _ ga Ca g E h=>?_;refine AN ?_;refine ⟨rfl,?_,g⟩;unfold DS AG;rw [hv];exact h
theorem bZ{F:Nd}{n0 b:Nat}{S:Ak}{w:Ae}(h:D5 F n0 b S w)(hs:S.w≤100000000):Bz An 143 #[.pointer (some ⟨b,0,none⟩)] w fun r w'=>r = .tuple #[]∧D5 F n0 b (El S) w'∧AP DU n0 w w':=by
 obtain ⟨fv,sv,sn,h⟩:=h;have g:=AP.refl DU n0 w;refine Cu 9 [0] Tryz.func143 ?_;refine Ad ?_;refine Df J I2 (Ab J) (Ab J) J J h.B J J ?_;intro wA aa ab BA;have g:=JC g aa h.B rfl h.hb;have h:=h.set (S':=El S) aa BA rfl rfl;refine Ai (Hh J ?_);exact ⟨rfl,h.ah,g⟩
theorem LQ{F:Nd}{n0 b:Nat}{S:Ak}{w:Ae}(t:Nd)(p:Option Addr)(c:Nat)(k a:Int)(h:D5 F n0 b S w):Bz An 123 #[.pointer (some ⟨b,0,none⟩),Cd t (.slice p t.j.length c),.int .i64 k,.int .i64 a] w fun r w'=>r = .tuple #[]∧D5 F n0 b (DA t k a S) w'∧AP DU n0 w w':=by
 have aa:=h.lt;have g:=AP.refl DU n0 w;refine Cu 16 [0,1,2,3] Tryz.func123 ?_;refine CT fun _ _ ga _ g E=>?_;have h:=Ar h;refine Aw (fun h1=>?_) fun h1=>?_;have hv:Ac (t.ty.k=k)=false:=by simpa using h1
 refine Ad ?_;refine AO (F4 a 7 h) ?_;rintro _ _ ⟨rfl,h,ga⟩;refine A4 fun g E=>?_;refine Ai (Hh J ?_);refine ⟨rfl,?_,g⟩;unfold DA AG;rw [hv];exact h;have hv:Ac (t.ty.k=k)=true:=by simpa using h1
 refine CJ (Hh J ?_);refine ⟨rfl,?_,g⟩;unfold DA AG;rw [hv];exact h
theorem uR{l:List Dz}{sc:Nat}(h:(Ac ((l.length:Int)>0)&&Ac (((QZ l).w:Int)=sc))=true):0<l.length∧JG sc l=JG sc l.dropLast:=by
 simp only [Ao,BM] at h;rcases F3 l with e|⟨a,x,e⟩;subst e;simp at h;rw [Gc] at e;subst e;have hx:x.w=sc:=by have:=h.2;simp [QZ] at this;omega
 refine ⟨by simp,?_⟩;rw [Ip];unfold JG;rw [Gm,GN,GZ,List.dropWhile_cons_of_pos (by simp [hx])]
theorem Aei{l:List Dz}{sc:Nat}(h:(Ac ((l.length:Int)>0)&&Ac (((QZ l).w:Int)=sc))=false):JG sc l=l:=by
 rcases F3 l with e|⟨a,x,e⟩;subst e;rfl;rw [Gc] at e;subst e
 have hx:x.w≠sc:=by
  intro e;rw [Bool.and_eq_false_iff] at h;rcases h with h|h;simp at h;simp [QZ,e] at h
 unfold JG;rw [Gm,GN,GZ,List.dropWhile_cons_of_neg (by simp [hx]),List.reverse_cons,List.reverse_reverse]
theorem kQ{l:List Dz}(h:0<l.length):QZ l=l[l.length-1]:=by
 rw [QZ,List.getLast?_eq_getElem?,Dr O];rfl
theorem TQ{F:Nd}{n0 b:Nat}{S:Ak}{w:Ae}(h:D5 F n0 b S w)(hs:S.w≤100000000)(ag:1≤S.w)(hv:S.F.length≤100000000):Bz An 144 #[.pointer (some ⟨b,0,none⟩)] w fun r w'=>r = .tuple #[]∧D5 F n0 b (IY S) w'∧AP DU n0 w w':=by
 have g:=AP.refl DU n0 w;refine Cu 49 [0] Tryz.func144 ?_;refine Am (DF (Hi (fun (l:List Dz) u1=>(D5 F n0 b { S with F:=l } u1∧JG S.w S.F=JG S.w l∧l.length≤100000000)∧AP DU n0 w u1) [(0,True,_)] (fun (l:List Dz)=>[]) (fun (l:List Dz)=>l.length) (S.F) ⟨⟨h,rfl,hv⟩,AP.refl _ _ _⟩ Bp ?_));rintro l u1 ⟨ah,aa⟩;have g:=g.trans aa;obtain ⟨⟨fv,sv,sn,h⟩,hd,hl⟩:=ah;have am:({ S with F:=l }:Ak).w≤100000000:=hs;have ak:1≤({ S with F:=l }:Ak).w:=ag;obtain ⟨p,c,rfl,ai,ae⟩:=UP (l:=l) h.ov;refine Am (Am (Dj [3,3,3,0,3,3,3,3,3,3,0,3,3,3,0,3,3,3,3,0,3,3,3,0,3,3] ?_));have g:=NX g;have aa:=aa.trans (AP.Y (G.drew _));have h:=h.A (G.drew _);refine Ap J (C1 J (AE LI J (AM Md J (h.B.y J) (EI Lq J (SI J J (Ap J (Ay J J J (Bm J) (Ay J J J (fun _=>FZ (Ah J id)) (Ay J J J (fun _=>AB LI (Ah J id)) (BQ J J J (AZ Md (Ah J id) (fun _=>h.B.y J)) (Ay J J J (Bm J) (Ay J J J (fun _=>FZ (Ah J id)) (Ay J J J (fun _=>AB LI (Ah J id)) (BQ J J J (AZ Md (Ah J id) (fun _=>h.B.y J)) (Ay J J J (fun _=>Lp Lq (Ah J id)) (?_))))))))))))))))
 refine Ay J J J (fun _=>Jy (Ah J id) Bd (fun _=>O)) (Ay J J J (fun _=>CS Lq (Ah J id) (Ah J id) (fun h6=>by have h6:=h6.2;simp only [BM] at h6;omega) (fun h6=>(ae 0 (by have h6:=h6.2;simp only [BM] at h6;omega)).1)) (Ay J J J (fun _=>AB Vn (Ah J id)) (BQ J J J (AZ Cb (Ah J id) (fun h6=>by have ad:0<l.length:=(by have h6:=h6.2;simp only [BM] at h6;omega);have e:((l.length:Int)-1).toNat=l.length-1:=O;rw [e];exact (ae (l.length-1) O).2.one (i:=5) (by rw [← kQ ad];rfl))) (Ay J J J (Bm J) (Ay J J J (fun _=>FZ (Ah J id)) (Ay J J J (fun _=>AB XU (Ah J id)) (BQ J J J (AZ Cb (Ah J id) (fun _=>h.B.y J)) (Ay J J J (fun _=>Gk (Ah J id) (Ah J id)) (AR J (fun _=>Et (Ab J) (Ah J id)) (Ai (Al (Cv J (fun h1=>?_) (fun h1=>?_)))))))))))));obtain ⟨ad,ab⟩:=uR h1;refine CJ (Al (DF (Dj [3,3,3,3,0,3,3,3,0,3,3,3,3,3,2] ?_)));have g:=NX g;have aa:=aa.trans (AP.Y (G.drew _));have h:=h.A (G.drew _);refine Ap J (Ap J (C1 J (AE LI J (AM Md J (h.B.y J) (Ap J (C1 J (AE LI J (AM Md J (h.B.y J) (EI Lq J (AR J (fun _=>Jy (Ab J) Bd (fun _=>O)) (AR J (fun _=>PI Lq (Ab J) (Ab J) (fun _=>O)) (C1 J (AE LI J (Df J Sz (Ab J) (Ab J) J J h.B J J ?_))))))))))))));intro wA ac aj BA;have e:((l.length:Int)-1).toNat=l.dropLast.length:=by rw [List.length_dropLast];omega
 rw [e] at BA;have g:=JC g ac h.B rfl h.hb;have aa:=JC aa ac h.B rfl h.hb;have h:=h.bb (S':={ S with F:=l.dropLast }) (UF _ _) (Aad h.ov) ac BA rfl;refine Ci [0] ?_;refine Ai (fun a ha=>?_);exact ⟨l.dropLast,ha,⟨⟨h.ah,hd.trans ab,by simp;omega⟩,aa⟩,by simp;omega⟩;have ab:=Aei h1;refine Ad ?_;refine Df J I2 (Ab J) (Ab J) J J h.B J J ?_;intro wC af al BC;have e:(S.w:Int)-1=((S.w-1:Nat):Int):=by omega
 rw [e] at BC;have g:=JC g af h.B rfl h.hb;have h:=h.set (S':=IY S) af (by unfold IY;rw [hd,ab];exact BC) (by show JG _ _=_;rw [hd,ab]) rfl;refine Ai (Hh J ?_);exact ⟨rfl,h.ah,g⟩
theorem Afz{l:List Dz}{k:Nat}(h:k<l.length)(s:List UInt8):E9 (l.take (k+1)) s=bif Ac (l[k].name=s) then some l[k] else E9 (l.take k) s:=by
 unfold E9;rw [Kh h,Gm,GN,GZ,List.find?_cons];cases Ac (l[k].name=s) <;> rfl
theorem lF{l:List Dz}{k:Nat}(h:k<l.length)(p:Dz→Bool):(l.take (k+1)).any p=((l.take k).any p || p l[k]):=by
 rw [Kh h,List.any_append];simp
theorem Qx{a e:Int}{S:Ak}(he:e≠0)(p q:Bool):AG (!(p || q)) a e S=(bif q then DV a e (AG (!p) a e S) else AG (!p) a e S):=by
 cases p <;> cases q <;> try rfl
 show DV a e S=DV a e (DV a e S);by_cases h:S.ee=0;have:DV a e S = { S with ea:=a,ee:=e }:=by unfold DV;rw [BU h];rfl
 rw [this];unfold DV;rw [Aq he];rfl;have:DV a e S=S:=by unfold DV;rw [Aq h];rfl
 rw [this,this]
theorem V5{α:Type}{l xs:List α}{m i:Nat}(h:l.take m=xs)(hi:i<m):l[i]? = xs[i]?:=by
 rw [← h,Lo,CO hi]
theorem Xb{α:Type}{l:List α}{o:Nat}(h:o<l.length)(v:α):l.set o v=l.take o++[v]++l.drop (o+[v].length):=by
 rw [List.set_eq_take_append_cons_drop,CO h];simp
theorem UZ{w:Ae}{b b':Nat}{e e':AD}{l l':List Bf}(h:Ax w b e l)(h':Ax w b' e' l')(he:Bu e e'=false):b≠b':=fun q=>by
 subst q;unfold Ax at h h';rw [h] at h';injection h' with h';injection h' with _ h';subst h';simp at he
structure Li (F:Nd):Prop where
  k6:∀ d∈F.j,d.k=6→1≤d.j.length
  k4:∀ d∈F.j,d.k=4→2≤d.j.length
  kp:∀ d∈F.j,d.k=4→∀ f∈(Aa d 0).j,1≤f.j.length
theorem NT{kd:Int}{s:List UInt8}:∀ (l:List Nd) (k:Nat),0≤(GI kd s l k).2→(GI kd s l k).1∈l∧(GI kd s l k).1.k=kd
 | [],k,h=>absurd h (show ¬ (0:Int)≤-1 by decide)
 | d::l,k,h=>by
  rw [GI] at h ⊢;cases h1:Ac (d.k=kd);rw [h1,AQ] at h;have:=NT l k h;exact ⟨Kp _ this.1,this.2⟩;rw [h1,AL] at h;rw [AL];cases h2:Ac (d.o=s);rw [h2,AQ] at h;have:=NT l (k+1) h;exact ⟨Kp _ this.1,this.2⟩;exact ⟨List.mem_cons_self,AH h1⟩
theorem Li.l6{F:Nd}(H:Li F){s:List UInt8}(h:0≤(A9 F 6 s).2):0<(A9 F 6 s).1.j.length:=H.k6 _ (NT _ _ h).1 (NT _ _ h).2
theorem Li.l4{F:Nd}(H:Li F){s:List UInt8}(h:0≤(A9 F 4 s).2):2≤(A9 F 4 s).1.j.length:=H.k4 _ (NT _ _ h).1 (NT _ _ h).2
theorem Li.lp{F:Nd}(H:Li F){s:List UInt8}(h:0≤(A9 F 4 s).2):∀ f∈(Aa (A9 F 4 s).1 0).j,1≤f.j.length:=H.kp _ (NT _ _ h).1 (NT _ _ h).2
def Qn(S:Ak)(name:List UInt8)(v:Dz):Bool:=Ac (v.w=S.w)&&Ac (v.name=name)
theorem QN{F:Nd}{n0 b:Nat}{S:Ak}{w:Ae}{N:Nat}(name:List UInt8)(y:Bo)(a:Int)(h:D5 F n0 b S w)(hb:EO S N)(hN:N≤1000000):Bz An 62 #[.pointer (some ⟨b,0,none⟩),Cg name,D7 y,.int .i64 a] w fun r w'=>r = .int .i64 (Ea S:Nat)∧D5 F n0 b (GQ name y a S) w'∧AP DU n0 w w':=by
 have ba:=h.lt;have aq:=hb.vl;have a1:=hb.nl;have ag:=hb.lv;have a4:=jK hb;have g:=AP.refl DU n0 w;refine Cu 92 [0,1,2,3] Tryz.func62 ?_;refine CT fun _ w6 ga _ g E=>?_;have h:=Ar h;refine Ad ?_;refine Hi (fun (i:Nat) u1=>(i≤S.F.length∧D5 F n0 b (AG (!(S.F.take i).any (Qn S name)) a 6 S) u1)∧AP DU n0 w6 u1) [(0,True,_),(1,True,_),(3,True,_),(6,True,_),(8,True,_)] (fun (i:Nat)=>[(9,True,.int .i64 i)]) (fun (i:Nat)=>S.F.length-i) (0) ⟨⟨Cq _,h⟩,AP.refl _ _ _⟩ Bp ?_;rintro i u1 ⟨ax,ab⟩;have g:=g.trans ab;replace E:=E.gt ab rfl;obtain ⟨hi,hC⟩:=ax;obtain ⟨T,hT⟩:∃ T,T=AG (!(S.F.take i).any (Qn S name)) a 6 S:=⟨_,rfl⟩;rw [← hT] at hC;obtain ⟨q1,q2,q3,q4,q5,_⟩:=NV (!(S.F.take i).any (Qn S name)) a 6 S;rw [← hT] at q1 q2 q3 q4 q5;have bc:=hC;obtain ⟨fv,sv,sn,h⟩:=hC;obtain ⟨pv,cv,rfl,a3,ad⟩:=UP h.ov;have q6:T.F.length≤N:=by rw [q1];exact aq
 refine Aw (fun h1=>?_) fun h1=>?_;have h1:i<T.F.length:=by simp only [BM] at h1;omega
 have af:i<S.F.length:=by rw [← q1];exact h1
 have am:=lF af (Qn S name);have a2:T.F[i]=S.F[i]:=by simp only [q1]
 have hp:Qn S name S.F[i]=(Ac ((T.F[i].w:Int)=(T.w:Nat))&&Ac (T.F[i].name=name)):=by rw [a2,q2,Qn];congr 1;rw [decide_eq_decide];omega
 refine CJ (Al (Am (DF (Am (Dj [3,3,3,0,3,3,3,0,3,3,3,0,3,3,3,3,3,0,3,3,3,0,3,3,3] ?_)))));have ab:=ab.trans (AP.Y (G.drew _));replace E:=E.dr;have h:=h.A (G.drew _);refine Ap J (C1 J (AE LI J (AM Md J (h.B.y J) (Ap J (AR J (fun _=>CS Lq (Ab J) (Ab J) (fun _=>O) (fun _=>(ad i h1).1)) (AE Vn J (AM Cb J (((ad i h1).2.A (G.drew _)).one (i:=5) J) (Ap J (C1 J (AE XU J (AM Cb J (h.B.y J) (Fy J J (Ap J (Ay J J J (Bm J) (Ay J J J (fun _=>FZ (Ah J id)) (?_))))))))))))))));refine Ay J J J (fun _=>AB LI (Ah J id)) (BQ J J J (AZ Md (Ah J id) (fun _=>h.B.y J)) (Ay J J J (Bm J) (Ay J J J (fun _=>CS Lq (Ah J id) (Ah J id) (fun _=>O) (fun _=>(ad i h1).1)) (Ay J J J (fun _=>AB eJ (Ah J id)) (BQ J J J (AZ DW (Ah J id) (fun _=>((ad i h1).2.A (G.drew _)).one (i:=0) J)) (Ay J J J (Bm J) (Ay J J J (fun _=>OB (Ah J id) (Ah J id)) (AR J (fun _=>Et (Ab J) (Ah J id)) (Ai (Al (Cv J (fun h2=>?_) (fun h2=>?_))))))))))));rw [h2] at hp;refine Ad ?_;refine AO (F4 a 6 h.ah) ?_;rintro a9 a5 ⟨rfl,hC,al⟩;refine ⟨Fa,?_⟩;have ab:=ab.trans al;replace E:=E.gt al rfl;refine Ad ?_;refine Ci [9,0,1,3,6,8] ?_;refine Ai (fun a ha=>?_);exact ⟨i+1,ha,⟨⟨af,by rw [am,Qx BT,hp,← hT];exact hC⟩,ab⟩,O⟩;rw [h2] at hp;refine Ad ?_;refine Ci [9,0,1,3,6,8] ?_;refine Ai (fun a ha=>?_)
 exact ⟨i+1,ha,⟨⟨af,by rw [am,Qx BT,hp,← hT];exact h.ah⟩,ab⟩,O⟩;have h1:i=S.F.length:=by rw [← q1];simp only [CB] at h1;rw [← q1] at hi;omega
 subst h1;rw [EY] at hT;have bb:T.D<T.next.length:=by rw [q3,q4];exact ag
 have a7:T.next.length≤N+1:=by rw [q4];exact a1
 obtain ⟨gs,cs,ls,rfl,av,aa,ar,aj,ah,au⟩:=Q9 h.on O
 have ai:ls[0+T.D*1]? = some (.int .i64 (Ea S:Nat)):=by
  rw [V5 ah O,show 0+T.D*1=T.D by omega,List.getElem?_map,q4,q3,Dr ag,Ea,List.getD_eq_getElem?_getD,Dr ag];rfl
 refine Ad ?_;refine Dj [3,3,3,0,3,3,3,0,3,0,3] ?_;refine Da fun g E h=>?_;have aa:=aa.A (G.drew _);refine Ap J (C1 J (AE QD J (AM Ol J (h.B.y J) (Ap J (C1 J (AE R6 J (AM Cb J (h.B.y J) (Hn Jm J J O (AM Cb J (aa.y ai) (Bj J (Ai (Al (Am (Dj [3,3,3,0,3,3,3,0,3,0,3,3,2] ?_))))))))))))));refine Da fun g E h=>?_;have aa:=aa.A (G.drew _);refine Ap J (C1 J (AE QD J (AM Ol J (h.B.y J) (Ap J (C1 J (AE R6 J (AM Cb J (h.B.y J) (Hn Jm J J O (AM Cb J (aa.y ai) (H2 J J O (Hn Jm J J O (Df J I2 (Ab J) (Ab J) J J aa (Nat.ble_eq.mpr (by have:=aj;have:=ar;simp;omega)) J ?_))))))))))));intro wA ae a8 BA;have g:=JC g ae aa rfl av;replace E:=E.ae ae aa rfl;replace BA:Ax wA gs 3 (ls.set (0+T.D*1) (Value.int .i64 ((Ea S:Nat)+1))):=by rw [Xb O];exact BA
 have hO:=au _ _ BA (by rw [E8];exact aj)
 have e5:(ls.set (0+T.D*1) (Value.int .i64 ((Ea S:Nat)+1))).take (T.next.length*1)=(T.next.set T.D (Ea S+1)).map fun (k:Nat)=>Value.int .i64 (k:Int):=by
  rw [take_set _ _ _ _ O,ah,List.map_set,show 0+T.D*1=T.D by omega];rfl
 have h:=h.b4 (S':={ T with next:=T.next.set T.D (Ea S+1) }) ae (by
  show wA.ownsRow n0 3 1 _ (T.next.set T.D (Ea S+1)).length _;rw [E8];exact e5▸hO) rfl
 have q7:({ T with next:=T.next.set T.D (Ea S+1) }:Ak).F.length≤N:=q6;refine Ad ?_;refine Dj [3,3,3,3,0,3,0,3,3,3,3,0,3,3,3,0,3,1,2,3,3,2] ?_;refine Da fun g E h=>?_;refine Ad ?_;refine Hg Td dF (Bk J (Bk J (Bk J (Bk J (Bk J CH))))) J J (Ck fun _ _ an _ g E=>?_);have h:=h.A (an.g);refine Ja J Lq Td J BT (Ab J) h.ov (Ab J) J an.H.row J (by simp only [maxLen];omega) O Dn ?_;intro pw cw az ap ac aw;have g:=aD g h.ov rfl ac;have ay:(T.F++[(⟨name,y,Ea S,T.D,T.w⟩:Dz)]).length=T.F.length+1:=by simp
 have ao:(T.F++[(⟨name,y,Ea S,T.D,T.w⟩:Dz)]).flatMap JU=T.F.flatMap JU++JU (⟨name,y,Ea S,T.D,T.w⟩:Dz):=by simp
 refine Ad ?_;refine Df J Sz (Ab J) (Ab J) J J (h.a7 ac).1 J J ?_;intro wC ak a6 BC;have g:=JC g ak (h.a7 ac).1 rfl h.hb
 have h:=h.bb (S':={ T with next:=T.next.set T.D (Ea S+1),F:=T.F++[(⟨name,y,Ea S,T.D,T.w⟩:Dz)] }) ac (by
  show az.ownsRow n0 96 6 (.slice pw (T.F.length+1) cw) (T.F++[(⟨name,y,Ea S,T.D,T.w⟩:Dz)]).length ((T.F++[(⟨name,y,Ea S,T.D,T.w⟩:Dz)]).flatMap JU);rw [ay,ao];exact ap) ak BC rfl
 refine AN ?_;refine ⟨rfl,?_,g⟩
 have e:GQ name y a S = { T with next:=T.next.set T.D (Ea S+1),F:=T.F++[(⟨name,y,Ea S,T.D,T.w⟩:Dz)] }:=by
  unfold GQ;rw [show AG (!KD S name) a 6 S=T from hT.symm];dsimp only;rw [q1,q2,q3,q4]
 rw [e];exact h.ah
theorem WM{F:Nd}{n0 b:Nat}{S:Ak}{w:Ae}{N:Nat}(H:Li F)(t:Nd)(p:Option Addr)(c:Nat)(h:D5 F n0 b S w)(hb:EO S N)(hN:N≤1000000):Bz An 147 #[.pointer (some ⟨b,0,none⟩),Cd t (.slice p t.j.length c)] w fun r w'=>r = .tuple #[Cd (Cx F S t).1 (.slice none 0 0),.bool (Cx F S t).2]∧G w w':=by
 obtain ⟨fv,sv,sn,h⟩:=h;have bk:=h.lt;have bf:=hb.vl;have bi:=hb.nl;have bj:=hb.lv;obtain ⟨pv,cv,rfl,be,a3⟩:=UP h.ov;have g:=G.refl w;refine Cu 112 [0,1] Tryz.func147 ?_;refine CT fun _ _ _ _ g E=>?_;refine A5 fun _ _ _ l4 g E=>?_;refine Ad ?_;refine AO (Is t _ _ _) ?_;rintro _ _ ⟨rfl,ga⟩;refine A4 fun g E=>?_;refine A5 fun b6 _ _ l6 g E=>?_;refine AS fun bc _ _ g E=>?_;refine Ai (Al (Am (Am (Au (Ap J (C1 J (AE LI J (AM Md J ((h.B.A g).y J) (EI Lq J (AR J (fun _=>Jy (Ab J) Bd (fun _=>O)) (Bj J (Ai (Al (DF (Hi (fun (j:Nat) u1=>(j≤S.F.length∧E9 S.F t.o=E9 (S.F.take j) t.o)∧G bc u1) [(0,True,_),(3,True,_),(4,True,_),(6,True,_)] (fun (j:Nat)=>[(7,True,.int .i64 ((j:Int)-1))]) (fun (j:Nat)=>j) (S.F.length) ⟨⟨AA _,by rw [EY]⟩,G.refl _⟩ Bp ?_)))))))))))))));rintro j u1 ⟨bb,aa⟩;have g:=g.trans aa;replace E:=E.A aa;obtain ⟨hj,hF⟩:=bb;refine Aw (fun h1=>?_) fun h1=>?_;have h1:1≤j:=by simp only [BM] at h1;omega
 obtain ⟨k,rfl⟩:∃ k,j=k+1:=⟨j-1,O⟩;have e:(((k+1:Nat):Int)-1).toNat=k:=by omega
 have hk:k<S.F.length:=hj;have bg:=hb.vs _ (Ez hk);rw [Afz hk] at hF;refine CJ (Al (Am (DF (Am (Au (Ap J (C1 J (AE LI J (AM Md J ((h.B.A g).y J) (Ap J (AR J (fun _=>CS Lq (Ab J) (Ab J) (fun _=>O) (fun _=>(a3 k hk).1)) (Ct X8 J J (by rw [e];exact (a3 k hk).2.A g) (A5 fun _ _ ga _ g E=>?_)))))))))))));have a4:=ga.ge aa;have aa:=aa.trans (ga.g);refine AS fun _ ga _ g E=>?_;first|replace aa:=BJ aa ga O|clear aa|skip
 refine Aw (fun h2=>?_) fun h2=>?_;rw [h2,AL] at hF;refine Ad ?_;refine Dx (Ej (some b6)) [3,0,3,3,3,0,3,0,3,3,0,3,1,3,1,3,1,3,1] [0,1,0,4,12,28,0,64,252,0,512,0,2048,6147,14339,31231,63999,131071,262143] CG Ag [0,1,2,3,4,5,6,7,8,9,10,11,12,13,14,15,16,17,18] J ?_;have g:=HG g;have aa:=aa.trans (G.drew _);replace E:=E.dr;refine As 0 J J (fun _=>AB kB (Ab J)) (Bb 1 J J (fun w1 hx=>AZ Cb (Ab J) (fun _=>(E.J.C hx (fun h=>E.ne 0 1 J J J (EM h))).y J)) (As 2 J J (Bm J) (As 3 J J (fun _=>FZ (Ab J)) (As 4 J J (fun _=>AB R6 (Ab J)) (Bb 5 J J (fun w1 hx=>AZ Cb (Ab J) (fun _=>((h.B.A g).C hx (by intro q;first|(injection q with q;omega)|cases q)).y J)) (As 6 J J (fun _=>AB jL (Ab J)) (Bb 7 J J (fun w1 hx=>AZ Cb (Ab J) (fun _=>(E.J.C hx (fun h=>E.ne 0 1 J J J (EM h))).y J)) (As 8 J J (fun _=>Jy (Ab J) (Ab J) (fun _=>O)) (As 9 J J (fun _=>AB ZR (Ab J)) (Bb 10 J J (fun w1 hx=>A8 Cf (Ab J) J (fun _=>(E.J.C hx (fun h=>E.ne 0 1 J J J (EM h))).row.part 1 2)) (As 11 J J (fun _=>AB OE (Ab J)) (AW 12 J J ?_))))))))))));refine Bt (L':=[13,14,15,16,17,18]) [3,0,3,3,3,0,3,0,3,3,0,3,2,3,2,3,2,3,2] J J J ?_;refine AS fun _ aq _ g E=>?_;first|replace aa:=BJ aa aq O|clear aa|skip
 refine Bs (aq) ?_;refine As 13 J J (fun _=>AB Ku (Ab J)) (AW 14 J J ?_);refine Bt (L':=[15,16,17,18]) [3,0,3,3,3,0,3,0,3,3,0,3,2,3,2,3,2,3,2] J J J ?_;refine AS fun _ ap _ g E=>?_;first|replace aa:=BJ aa ap O|clear aa|skip
 refine Bs (ap) ?_;refine As 15 J J (fun _=>AB T8 (Ab J)) (AW 16 J J ?_);refine Bt (L':=[17,18]) [3,0,3,3,3,0,3,0,3,3,0,3,2,3,2,3,2,3,2] J J J ?_;refine AS fun _ ar _ g E=>?_;first|replace aa:=BJ aa ar O|clear aa|skip
 refine Bs (ar) ?_;refine As 17 J J (fun _=>AB Fg (Ab J)) (AW 18 J J ?_);refine Bt (L':=[]) [3,0,3,3,3,0,3,0,3,3,0,3,2,3,2,3,2,3,2] J J J ?_;refine Df J ET (Ab J) (Ab J) J J E.U J J ?_;intro bh am _ BS;replace E:=E.s1 am BS;have g:=BJ g am O;first|replace aa:=BJ aa am O|clear aa|skip
 refine Bs (am) ?_;refine Dt [0,3,4,6,7] ?_;refine AS fun _ ga _ g E=>?_;first|replace aa:=BJ aa ga O|clear aa|skip
 refine AN ?_;refine ⟨?_,g⟩;unfold Cx;rw [hF];rfl;rw [h2,AQ] at hF;refine Ad ?_;refine Ci [7,0,3,4,6] ?_;refine Ai (fun a ha=>?_);exact ⟨k,by rw [show ((k+1:Nat):Int)-1-1=(k:Int)-1 by omega] at ha;exact ha,⟨⟨O,hF⟩,aa⟩,O⟩;have h1:j=0:=by simp only [CB] at h1;omega
 subst h1;replace hF:E9 S.F t.o=none:=hF;refine Ad ?_;refine Dx (Ej none) [3,3,3,0,3,0,1,3,3,3,1,2,3] [0,1,3,7,0,16,63,127,255,255,0,1535,4095] CG Ag [0,1,2,3,4,5,6,7,8,9,10,11,12] J ?_;have g:=HG g;have aa:=aa.trans (G.drew _);replace E:=E.dr;refine As 0 J J (Bm J) (As 1 J J (fun _=>FZ (Ab J)) (As 2 J J (fun _=>AB OC (Ab J)) (Bb 3 J J (fun w1 hx=>A8 A3 (Ab J) J (fun _=>((h.B.A g).C hx (by intro q;first|(injection q with q;omega)|cases q)).row.part 0 9)) (As 4 J J (fun _=>AB E2 (Ab J)) (Bb 5 J J (fun w1 hx=>AZ DW (Ab J) (fun _=>(E.g2.C hx DD).y J)) (Lx 6 10 J J ?_ ?_))))));refine Bt (L':=[7,8,9,10,11,12]) [3,3,3,0,3,0,1,3,3,3,1,2,3] rfl rfl rfl ?_;refine AO (Lt F fv _ _ 6 t.o (h.kF.A g) h.hF) ?_;rintro ba a9 ⟨⟨a6,a7,rfl,ad⟩,aj⟩;refine Ev aj fun g=>?_;have aa:=aa.trans (aj);replace E:=E.A aj;refine Bs ((aj).O _) ?_;refine As 7 J J (Bm J) (As 8 J J (fun _=>Gr (Ab J) J) (As 9 J J (fun _=>Gr (Ab J) J) (AW 10 J J ?_)));refine Bt (L':=[11,12]) [3,3,3,0,3,0,1,3,3,3,1,2,3] J J J ?_;refine A5 fun _ _ N9 l9 g E=>?_;have ao:=N9.ge aa;have aa:=aa.trans (N9.g);have ad:=ad.A (N9.g);refine Bs ((N9.g).O _) ?_;refine AW 11 J J ?_;refine DN (L':=[12]) [3,3,3,0,3,0,1,3,3,3,1,2,3] J J J J ?_;refine AS fun _ ga _ g E=>?_;first|replace aa:=BJ aa ga O|clear aa|skip
 have ad:=Co ad;refine DL ?_;refine As 12 J J (fun _=>Fj (Ab J)) (Dt [0,3,4,6,9,10,53,54,55,56,57,58,59,60,61,62] (FW (Al (Am (Au (Ap J (Nz J J (Ai (Al (Cv J (fun h3=>?_) (fun h3=>?_)))))))))));have h3:0≤(A9 F 6 t.o).2:=by simp only [BM] at h3;omega
 have av:=H.l6 h3;refine AS fun _ ga _ g E=>?_;first|replace aa:=BJ aa ga O|clear aa|skip
 have ad:=Co ad;refine AS fun _ ga _ g E=>?_;first|replace aa:=BJ aa ga O|clear aa|skip
 have ad:=Co ad;refine Ad ?_;obtain ⟨e0,p1,c1,hcell,ak⟩:=Ba ad (i:=0) av;refine Ad ?_;refine DI (NQ (Aa (A9 F 6 t.o).1 0) _ _ _) (DB fun a8 a5 g E=>?_);refine Ad ?_;refine Df J ET (Ab J) (Ab J) J J E.U J J ?_;intro a2 ah _ BS;replace E:=E.s1 ah BS;have g:=BJ g ah O;first|replace aa:=BJ aa ah O|clear aa|skip
 refine AS fun _ ga _ g E=>?_;first|replace aa:=BJ aa ga O|clear aa|skip
 refine AN ?_;refine ⟨?_,g⟩;unfold Cx;rw [hF];dsimp only;rw [BU h3];rfl;have h3:¬ 0≤(A9 F 6 t.o).2:=by simp only [CB] at h3;omega
 refine Ad ?_;refine Dx (Ej none) [3,3,3,0,3,0,1,3,3,3,1,2,3] [0,1,3,7,0,16,63,127,255,255,0,1535,4095] CG Ag [0,1,2,3,4,5,6,7,8,9,10,11,12] J ?_;have g:=HG g;have aa:=aa.trans (G.drew _);replace E:=E.dr;refine As 0 J J (Bm J) (As 1 J J (fun _=>FZ (Ab J)) (As 2 J J (fun _=>AB OC (Ab J)) (Bb 3 J J (fun w1 hx=>A8 A3 (Ab J) J (fun _=>((h.B.A g).C hx (by intro q;first|(injection q with q;omega)|cases q)).row.part 0 9)) (As 4 J J (fun _=>AB E2 (Ab J)) (Bb 5 J J (fun w1 hx=>AZ DW (Ab J) (fun _=>(E.g3.C hx DD).y J)) (Lx 6 10 J J ?_ ?_))))));refine Bt (L':=[7,8,9,10,11,12]) [3,3,3,0,3,0,1,3,3,3,1,2,3] rfl rfl rfl ?_;refine AO (Lt F fv _ _ 4 t.o (h.kF.A g) h.hF) ?_;rintro aw ax ⟨⟨au,ay,rfl,ab⟩,af⟩;refine Ev af fun g=>?_;have aa:=aa.trans (af);replace E:=E.A af;refine Bs ((af).O _) ?_;refine As 7 J J (Bm J) (As 8 J J (fun _=>Gr (Ab J) J) (As 9 J J (fun _=>Gr (Ab J) J) (AW 10 J J ?_)));refine Bt (L':=[11,12]) [3,3,3,0,3,0,1,3,3,3,1,2,3] J J J ?_;refine A5 fun _ _ ag a1 g E=>?_;have ai:=ag.ge aa;have aa:=aa.trans (ag.g);have ab:=ab.A (ag.g);refine Bs ((ag.g).O _) ?_;refine AW 11 J J ?_;refine DN (L':=[12]) [3,3,3,0,3,0,1,3,3,3,1,2,3] J J J J ?_;refine AS fun _ ga _ g E=>?_;first|replace aa:=BJ aa ga O|clear aa|skip
 have ab:=Co ab;refine DL ?_;refine As 12 J J (fun _=>Fj (Ab J)) (Dt [0,3,4,6,9,10,11,12,53,54,55,56,57,58,59,60,61,62,63,64,78,79,80,81,82,83,84,85,86,87] (FW (Al (Am (Au (Ap J (Nz J J (Ai (Al (Cv J (fun h4=>?_) (fun h4=>?_)))))))))));have h4:0≤(A9 F 4 t.o).2:=by simp only [BM] at h4;omega
 have az:=H.l4 h4;refine AS fun _ ga _ g E=>?_;first|replace aa:=BJ aa ga O|clear aa|skip
 have ab:=Co ab;refine AE Ku J (AS fun _ ga _ g E=>?_);first|replace aa:=BJ aa ga O|clear aa|skip
 have ab:=Co ab;refine Ai (Al (Am (Am (Au (?_)))));obtain ⟨e0,p1,c1,hcell,ak⟩:=Ba ab (i:=0) O;obtain ⟨AU,p2,c2,ae,al⟩:=Ba ab (i:=1) O;refine AE AY J (AM Bh J (E.J.y J) (Dk AC J J O e0 (AE AY J (AM Bh J (hcell.one (i:=4) J) (EI AC J (Fy J J (Ap J (Ay J J J (fun _=>AB AY (Ab J)) (BQ J J J (AZ Bh (Ah J id) (fun _=>E.J.y J)) (Ay J J J (fun _=>CS AC (Ah J id) Bd (fun _=>O) (fun _=>AU)) (Ay J J J (fun _=>AB FP (Ah J id)) (BQ J J J (AZ Cb (Ah J id) (fun _=>ae.one (i:=0) J)) (Ay J J J (fun _=>Gk (Ah J id) Bd) (AR J (fun _=>Et (Ab J) (Ah J id)) (Ai (Al (?_)))))))))))))))));refine Cv J (fun h5=>?_) (fun h5=>?_);(try simp only [BH] at h5);refine Ad ?_;refine Df J ET (Ab J) (Ab J) J J E.g2 J J ?_;intro an ac _ BS;replace E:=E.s2 ac BS;have g:=BJ g ac O;first|replace aa:=BJ aa ac O|clear aa|skip
 refine AS fun _ ga _ g E=>?_;first|replace aa:=BJ aa ga O|clear aa|skip
 refine AN ?_;refine ⟨?_,g⟩;unfold Cx;rw [hF];dsimp only;rw [Aq h3,BU h4,Kt,h5];rfl;refine AS fun _ ga _ g E=>?_;first|replace aa:=BJ aa ga O|clear aa|skip
 refine AN ?_;refine ⟨?_,g⟩;unfold Cx;rw [hF];dsimp only;rw [Aq h3,BU h4,Kt,h5];rfl;have h4:¬ 0≤(A9 F 4 t.o).2:=by simp only [CB] at h4;omega
 refine AS fun _ ga _ g E=>?_;first|replace aa:=BJ aa ga O|clear aa|skip
 refine AN ?_;refine ⟨?_,g⟩;unfold Cx;rw [hF];dsimp only;rw [Aq h3,Aq h4];rfl;refine Bt (L':=[6,7,8,9,11,12]) [3,3,3,0,3,0,1,3,3,3,1,2,3] rfl rfl rfl ?_;refine A5 fun _ _ ag a1 g E=>?_;have ai:=ag.ge aa;have aa:=aa.trans (ag.g);refine Bs ((ag.g).O _) ?_;refine AW 6 J J ?_;refine Bt (L':=[7,8,9,11,12]) [3,3,3,0,3,0,1,3,3,3,1,2,3] J J J ?_;refine AO (Lt F fv _ _ 4 t.o (h.kF.A g) h.hF) ?_;rintro aw ax ⟨⟨au,ay,rfl,ab⟩,af⟩;refine Ev af fun g=>?_;have aa:=aa.trans (af);replace E:=E.A af;refine Bs ((af).O _) ?_;refine As 7 J J (Bm J) (As 8 J J (fun _=>Gr (Ab J) J) (As 9 J J (fun _=>Gr (Ab J) J) (AW 11 J J ?_)));refine DN (L':=[12]) [3,3,3,0,3,0,1,3,3,3,1,2,3] J J J J ?_;refine AS fun _ ga _ g E=>?_;first|replace aa:=BJ aa ga O|clear aa|skip
 have ab:=Co ab;refine DL ?_;refine As 12 J J (fun _=>Fj (Ab J)) (Dt [0,3,4,6,9,10,11,12,53,54,55,56,57,58,59,60,61,62,63,64,78,79,80,81,82,83,84,85,86,87] (FW (Al (Am (Au (Ap J (Nz J J (Ai (Al (Cv J (fun h4=>?_) (fun h4=>?_)))))))))));have h4:0≤(A9 F 4 t.o).2:=by simp only [BM] at h4;omega
 have az:=H.l4 h4;refine AS fun _ ga _ g E=>?_;first|replace aa:=BJ aa ga O|clear aa|skip
 have ab:=Co ab;refine AE Ku J (AS fun _ ga _ g E=>?_);first|replace aa:=BJ aa ga O|clear aa|skip
 have ab:=Co ab;refine Ai (Al (Am (Am (Au (?_)))));obtain ⟨e0,p1,c1,hcell,ak⟩:=Ba ab (i:=0) O;obtain ⟨AU,p2,c2,ae,al⟩:=Ba ab (i:=1) O;refine AE AY J (AM Bh J (E.J.y J) (Dk AC J J O e0 (AE AY J (AM Bh J (hcell.one (i:=4) J) (EI AC J (Fy J J (Ap J (Ay J J J (fun _=>AB AY (Ab J)) (BQ J J J (AZ Bh (Ah J id) (fun _=>E.J.y J)) (Ay J J J (fun _=>CS AC (Ah J id) Bd (fun _=>O) (fun _=>AU)) (Ay J J J (fun _=>AB FP (Ah J id)) (BQ J J J (AZ Cb (Ah J id) (fun _=>ae.one (i:=0) J)) (Ay J J J (fun _=>Gk (Ah J id) Bd) (AR J (fun _=>Et (Ab J) (Ah J id)) (Ai (Al (?_)))))))))))))))));refine Cv J (fun h5=>?_) (fun h5=>?_);(try simp only [BH] at h5);refine Ad ?_;refine Df J ET (Ab J) (Ab J) J J E.g2 J J ?_;intro an ac _ BS;replace E:=E.s2 ac BS;have g:=BJ g ac O;first|replace aa:=BJ aa ac O|clear aa|skip
 refine AS fun _ ga _ g E=>?_;first|replace aa:=BJ aa ga O|clear aa|skip
 refine AN ?_;refine ⟨?_,g⟩;unfold Cx;rw [hF];dsimp only;rw [Aq h3,BU h4,Kt,h5];rfl;refine AS fun _ ga _ g E=>?_;first|replace aa:=BJ aa ga O|clear aa|skip
 refine AN ?_;refine ⟨?_,g⟩;unfold Cx;rw [hF];dsimp only;rw [Aq h3,BU h4,Kt,h5];rfl;have h4:¬ 0≤(A9 F 4 t.o).2:=by simp only [CB] at h4;omega
 refine AS fun _ ga _ g E=>?_;first|replace aa:=BJ aa ga O|clear aa|skip
 refine AN ?_;refine ⟨?_,g⟩;unfold Cx;rw [hF];dsimp only;rw [Aq h3,Aq h4];rfl;refine Bt (L':=[6,7,8,9,11,12]) [3,3,3,0,3,0,1,3,3,3,1,2,3] rfl rfl rfl ?_;refine A5 fun _ _ N9 _ g E=>?_;have ao:=N9.ge aa;have aa:=aa.trans (N9.g);refine Bs ((N9.g).O _) ?_;refine AW 6 J J ?_;refine Bt (L':=[7,8,9,11,12]) [3,3,3,0,3,0,1,3,3,3,1,2,3] J J J ?_;refine AO (Lt F fv _ _ 6 t.o (h.kF.A g) h.hF) ?_;rintro ba a9 ⟨⟨a6,a7,rfl,ad⟩,aj⟩;refine Ev aj fun g=>?_;have aa:=aa.trans (aj);replace E:=E.A aj;refine Bs ((aj).O _) ?_;refine As 7 J J (Bm J) (As 8 J J (fun _=>Gr (Ab J) J) (As 9 J J (fun _=>Gr (Ab J) J) (AW 11 J J ?_)));refine DN (L':=[12]) [3,3,3,0,3,0,1,3,3,3,1,2,3] J J J J ?_;refine AS fun _ ga _ g E=>?_;first|replace aa:=BJ aa ga O|clear aa|skip
 have ad:=Co ad;refine DL ?_;refine As 12 J J (fun _=>Fj (Ab J)) (Dt [0,3,4,6,9,10,53,54,55,56,57,58,59,60,61,62] (FW (Al (Am (Au (Ap J (Nz J J (Ai (Al (Cv J (fun h3=>?_) (fun h3=>?_)))))))))));have h3:0≤(A9 F 6 t.o).2:=by simp only [BM] at h3;omega
 have av:=H.l6 h3;refine AS fun _ ga _ g E=>?_;first|replace aa:=BJ aa ga O|clear aa|skip
 have ad:=Co ad;refine AS fun _ ga _ g E=>?_;first|replace aa:=BJ aa ga O|clear aa|skip
 have ad:=Co ad;refine Ad ?_;obtain ⟨e0,p1,c1,hcell,ak⟩:=Ba ad (i:=0) av;refine Ad ?_;refine DI (NQ (Aa (A9 F 6 t.o).1 0) _ _ _) (DB fun a8 a5 g E=>?_);refine Ad ?_;refine Df J ET (Ab J) (Ab J) J J E.U J J ?_;intro a2 ah _ BS;replace E:=E.s1 ah BS;have g:=BJ g ah O;first|replace aa:=BJ aa ah O|clear aa|skip
 refine AS fun _ ga _ g E=>?_;first|replace aa:=BJ aa ga O|clear aa|skip
 refine AN ?_;refine ⟨?_,g⟩;unfold Cx;rw [hF];dsimp only;rw [BU h3];rfl;have h3:¬ 0≤(A9 F 6 t.o).2:=by simp only [CB] at h3;omega
 refine Ad ?_;refine Dx (Ej none) [3,3,3,0,3,0,1,3,3,3,1,2,3] [0,1,3,7,0,16,63,127,255,255,0,1535,4095] CG Ag [0,1,2,3,4,5,6,7,8,9,10,11,12] J ?_;have g:=HG g;have aa:=aa.trans (G.drew _);replace E:=E.dr;refine As 0 J J (Bm J) (As 1 J J (fun _=>FZ (Ab J)) (As 2 J J (fun _=>AB OC (Ab J)) (Bb 3 J J (fun w1 hx=>A8 A3 (Ab J) J (fun _=>((h.B.A g).C hx (by intro q;first|(injection q with q;omega)|cases q)).row.part 0 9)) (As 4 J J (fun _=>AB E2 (Ab J)) (Bb 5 J J (fun w1 hx=>AZ DW (Ab J) (fun _=>(E.g3.C hx DD).y J)) (Lx 6 10 J J ?_ ?_))))));refine Bt (L':=[7,8,9,10,11,12]) [3,3,3,0,3,0,1,3,3,3,1,2,3] rfl rfl rfl ?_;refine AO (Lt F fv _ _ 4 t.o (h.kF.A g) h.hF) ?_;rintro aw ax ⟨⟨au,ay,rfl,ab⟩,af⟩;refine Ev af fun g=>?_;have aa:=aa.trans (af);replace E:=E.A af;refine Bs ((af).O _) ?_;refine As 7 J J (Bm J) (As 8 J J (fun _=>Gr (Ab J) J) (As 9 J J (fun _=>Gr (Ab J) J) (AW 10 J J ?_)));refine Bt (L':=[11,12]) [3,3,3,0,3,0,1,3,3,3,1,2,3] J J J ?_;refine A5 fun _ _ ag a1 g E=>?_;have ai:=ag.ge aa;have aa:=aa.trans (ag.g);have ab:=ab.A (ag.g);refine Bs ((ag.g).O _) ?_;refine AW 11 J J ?_;refine DN (L':=[12]) [3,3,3,0,3,0,1,3,3,3,1,2,3] J J J J ?_;refine AS fun _ ga _ g E=>?_;first|replace aa:=BJ aa ga O|clear aa|skip
 have ab:=Co ab;refine DL ?_;refine As 12 J J (fun _=>Fj (Ab J)) (Dt [0,3,4,6,9,10,11,12,53,54,55,56,57,58,59,60,61,62,63,64,78,79,80,81,82,83,84,85,86,87] (FW (Al (Am (Au (Ap J (Nz J J (Ai (Al (Cv J (fun h4=>?_) (fun h4=>?_)))))))))));have h4:0≤(A9 F 4 t.o).2:=by simp only [BM] at h4;omega
 have az:=H.l4 h4;refine AS fun _ ga _ g E=>?_;first|replace aa:=BJ aa ga O|clear aa|skip
 have ab:=Co ab;refine AE Ku J (AS fun _ ga _ g E=>?_);first|replace aa:=BJ aa ga O|clear aa|skip
 have ab:=Co ab;refine Ai (Al (Am (Am (Au (?_)))));obtain ⟨e0,p1,c1,hcell,ak⟩:=Ba ab (i:=0) O;obtain ⟨AU,p2,c2,ae,al⟩:=Ba ab (i:=1) O;refine AE AY J (AM Bh J (E.J.y J) (Dk AC J J O e0 (AE AY J (AM Bh J (hcell.one (i:=4) J) (EI AC J (Fy J J (Ap J (Ay J J J (fun _=>AB AY (Ab J)) (BQ J J J (AZ Bh (Ah J id) (fun _=>E.J.y J)) (Ay J J J (fun _=>CS AC (Ah J id) Bd (fun _=>O) (fun _=>AU)) (Ay J J J (fun _=>AB FP (Ah J id)) (BQ J J J (AZ Cb (Ah J id) (fun _=>ae.one (i:=0) J)) (Ay J J J (fun _=>Gk (Ah J id) Bd) (AR J (fun _=>Et (Ab J) (Ah J id)) (Ai (Al (?_)))))))))))))))));refine Cv J (fun h5=>?_) (fun h5=>?_);(try simp only [BH] at h5);refine Ad ?_;refine Df J ET (Ab J) (Ab J) J J E.g2 J J ?_;intro an ac _ BS;replace E:=E.s2 ac BS;have g:=BJ g ac O;first|replace aa:=BJ aa ac O|clear aa|skip
 refine AS fun _ ga _ g E=>?_;first|replace aa:=BJ aa ga O|clear aa|skip
 refine AN ?_;refine ⟨?_,g⟩;unfold Cx;rw [hF];dsimp only;rw [Aq h3,BU h4,Kt,h5];rfl;refine AS fun _ ga _ g E=>?_;first|replace aa:=BJ aa ga O|clear aa|skip
 refine AN ?_;refine ⟨?_,g⟩;unfold Cx;rw [hF];dsimp only;rw [Aq h3,BU h4,Kt,h5];rfl;have h4:¬ 0≤(A9 F 4 t.o).2:=by simp only [CB] at h4;omega
 refine AS fun _ ga _ g E=>?_;first|replace aa:=BJ aa ga O|clear aa|skip
 refine AN ?_;refine ⟨?_,g⟩;unfold Cx;rw [hF];dsimp only;rw [Aq h3,Aq h4];rfl;refine Bt (L':=[6,7,8,9,11,12]) [3,3,3,0,3,0,1,3,3,3,1,2,3] rfl rfl rfl ?_;refine A5 fun _ _ ag _ g E=>?_;have ai:=ag.ge aa;have aa:=aa.trans (ag.g);refine Bs ((ag.g).O _) ?_;refine AW 6 J J ?_;refine Bt (L':=[7,8,9,11,12]) [3,3,3,0,3,0,1,3,3,3,1,2,3] J J J ?_;refine AO (Lt F fv _ _ 4 t.o (h.kF.A g) h.hF) ?_;rintro aw ax ⟨⟨au,ay,rfl,ab⟩,af⟩;refine Ev af fun g=>?_;have aa:=aa.trans (af);replace E:=E.A af;refine Bs ((af).O _) ?_;refine As 7 J J (Bm J) (As 8 J J (fun _=>Gr (Ab J) J) (As 9 J J (fun _=>Gr (Ab J) J) (AW 11 J J ?_)));refine DN (L':=[12]) [3,3,3,0,3,0,1,3,3,3,1,2,3] J J J J ?_;refine AS fun _ ga _ g E=>?_;first|replace aa:=BJ aa ga O|clear aa|skip
 have ab:=Co ab;refine DL ?_;refine As 12 J J (fun _=>Fj (Ab J)) (Dt [0,3,4,6,9,10,11,12,53,54,55,56,57,58,59,60,61,62,63,64,78,79,80,81,82,83,84,85,86,87] (FW (Al (Am (Au (Ap J (Nz J J (Ai (Al (Cv J (fun h4=>?_) (fun h4=>?_)))))))))));have h4:0≤(A9 F 4 t.o).2:=by simp only [BM] at h4;omega
 have az:=H.l4 h4;refine AS fun _ ga _ g E=>?_;first|replace aa:=BJ aa ga O|clear aa|skip
 have ab:=Co ab;refine AE Ku J (AS fun _ ga _ g E=>?_);first|replace aa:=BJ aa ga O|clear aa|skip
 have ab:=Co ab;refine Ai (Al (Am (Am (Au (?_)))));obtain ⟨e0,p1,c1,hcell,ak⟩:=Ba ab (i:=0) O;obtain ⟨AU,p2,c2,ae,al⟩:=Ba ab (i:=1) O;refine AE AY J (AM Bh J (E.J.y J) (Dk AC J J O e0 (AE AY J (AM Bh J (hcell.one (i:=4) J) (EI AC J (Fy J J (Ap J (Ay J J J (fun _=>AB AY (Ab J)) (BQ J J J (AZ Bh (Ah J id) (fun _=>E.J.y J)) (Ay J J J (fun _=>CS AC (Ah J id) Bd (fun _=>O) (fun _=>AU)) (Ay J J J (fun _=>AB FP (Ah J id)) (BQ J J J (AZ Cb (Ah J id) (fun _=>ae.one (i:=0) J)) (Ay J J J (fun _=>Gk (Ah J id) Bd) (AR J (fun _=>Et (Ab J) (Ah J id)) (Ai (Al (?_)))))))))))))))));refine Cv J (fun h5=>?_) (fun h5=>?_);(try simp only [BH] at h5);refine Ad ?_;refine Df J ET (Ab J) (Ab J) J J E.g2 J J ?_;intro an ac _ BS;replace E:=E.s2 ac BS;have g:=BJ g ac O;first|replace aa:=BJ aa ac O|clear aa|skip
 refine AS fun _ ga _ g E=>?_;first|replace aa:=BJ aa ga O|clear aa|skip
 refine AN ?_;refine ⟨?_,g⟩;unfold Cx;rw [hF];dsimp only;rw [Aq h3,BU h4,Kt,h5];rfl;refine AS fun _ ga _ g E=>?_;first|replace aa:=BJ aa ga O|clear aa|skip
 refine AN ?_;refine ⟨?_,g⟩;unfold Cx;rw [hF];dsimp only;rw [Aq h3,BU h4,Kt,h5];rfl;have h4:¬ 0≤(A9 F 4 t.o).2:=by simp only [CB] at h4;omega
 refine AS fun _ ga _ g E=>?_;first|replace aa:=BJ aa ga O|clear aa|skip
 refine AN ?_;refine ⟨?_,g⟩;unfold Cx;rw [hF];dsimp only;rw [Aq h3,Aq h4];rfl
theorem Wn{s:List UInt8}(h:FK s=true):s≠[]:=by
 intro e;subst e;revert h;decide
theorem Hz{t:Nd}{f:Nd→Bool}(h:t.j.all f=true){i:Nat}(hi:i<t.j.length):f (Aa t i)=true:=by
 rw [Em hi];exact List.all_eq_true.1 h _ (Ez hi)
theorem Adv{s:List UInt8}(h:Ep Ky s=true):s≠[]:=by
 intro e;subst e;revert h;decide
theorem IB{t:Nd}(h:GU t=true):t.k=9∧t.o=[]∧t.j.length=0:=by
 unfold GU at h;simp only [Ao,BM] at h;exact ⟨h.1.1,h.1.2,by simpa [BV] using h.2⟩
theorem XI{t:Nd}(h:BN t=true):t.k≠9:=by
 intro e;unfold BN at h;rw [e] at h;have h:(E7 9&&Cr t)=true:=h;rw [show E7 9=false by decide] at h;cases h
theorem Aea{t:Nd}(h:He t=true):t.k≠9:=by
 intro e;unfold He at h;rw [e] at h;cases h
theorem Uj{t:Nd}{k:Int}(h:Kj t k=true):t.k=k∧BN t=true:=by
 unfold Kj at h;simp only [Ao,BM] at h;exact h
theorem Mm{t:Nd}(h:Eh t=true):t.k=10:=AH (CR.1 h).1
theorem Og{t:Nd}(h:t.k=28)(hx:BN t=true):t.o≠[]∧t.j.length=1∧BN (Aa t 0)=true:=by
 rw [← LP] at hx;unfold HN at hx;rw [h] at hx;have hx:((FK t.o&&BV t 1)&&BN (Aa t 0))=true:=hx;simp only [Ao,A2,BM] at hx;exact ⟨Wn hx.1.1,FE (hx.1.2),hx.2⟩
theorem Rl{t:Nd}(h:t.k=29)(hx:BN t=true):t.j.length=2∧BN (Aa t 0)=true∧BN (Aa t 1)=true:=by
 rw [← LP] at hx;unfold HN at hx;rw [h] at hx;have hx:((DH t&&BV t 2)&&t.j.all BN)=true:=hx;simp only [Ao,A2,BM] at hx;exact ⟨FE (hx.1.2),Hz hx.2 (I1 hx.1.2),Hz hx.2 (I1 hx.1.2)⟩
theorem WW{t:Nd}(h:t.k=30)(hx:BN t=true):1≤t.j.length∧t.j.all BN=true:=by
 rw [← LP] at hx;unfold HN at hx;rw [h] at hx;have hx:((DH t&&Ac (1≤(t.j.length:Int)))&&t.j.all BN)=true:=hx;simp only [Ao,A2,BM] at hx;exact ⟨by have:=hx.1.2;omega,hx.2⟩
theorem VQ{t:Nd}(h:t.k=31)(hx:BN t=true):t.o≠[]∧t.j.length=1∧BN (Aa t 0)=true:=by
 rw [← LP] at hx;unfold HN at hx;rw [h] at hx;have hx:(((Ac (t.o=[45]) || Ac (t.o=[33]))&&BV t 1)&&BN (Aa t 0))=true:=hx;simp only [Ao,A2,BM] at hx;exact ⟨by rcases hx.1.1 with e|e <;> rw [e] <;> simp,FE (hx.1.2),hx.2⟩
theorem SN{t:Nd}(h:t.k=32)(hx:BN t=true):t.o≠[]∧t.j.length=2∧BN (Aa t 0)=true∧BN (Aa t 1)=true:=by
 rw [← LP] at hx;unfold HN at hx;rw [h] at hx;have hx:((Ep Ky t.o&&BV t 2)&&t.j.all BN)=true:=hx;simp only [Ao,A2,BM] at hx;exact ⟨Adv hx.1.1,FE (hx.1.2),Hz hx.2 (I1 hx.1.2),Hz hx.2 (I1 hx.1.2)⟩
theorem XC{t:Nd}(h:t.k=33)(hx:BN t=true):t.j.length=1∧BN (Aa t 0)=true:=by
 rw [← LP] at hx;unfold HN at hx;rw [h] at hx;have hx:((DH t&&BV t 1)&&BN (Aa t 0))=true:=hx;simp only [Ao,A2,BM] at hx;exact ⟨FE (hx.1.2),hx.2⟩
theorem XD{t:Nd}(h:t.k=35)(hx:BN t=true):t.j.length=1∧BN (Aa t 0)=true:=by
 rw [← LP] at hx;unfold HN at hx;rw [h] at hx;have hx:((DH t&&BV t 1)&&BN (Aa t 0))=true:=hx;simp only [Ao,A2,BM] at hx;exact ⟨FE (hx.1.2),hx.2⟩
theorem VH{t:Nd}(h:t.k=36)(hx:BN t=true):t.j.length=1∧BN (Aa t 0)=true:=by
 rw [← LP] at hx;unfold HN at hx;rw [h] at hx;have hx:((DH t&&BV t 1)&&BN (Aa t 0))=true:=hx;simp only [Ao,A2,BM] at hx;exact ⟨FE (hx.1.2),hx.2⟩
theorem Wo{t:Nd}(h:t.k=37)(hx:BN t=true):t.j.length=1∧BN (Aa t 0)=true:=by
 rw [← LP] at hx;unfold HN at hx;rw [h] at hx;have hx:((DH t&&BV t 1)&&BN (Aa t 0))=true:=hx;simp only [Ao,A2,BM] at hx;exact ⟨FE (hx.1.2),hx.2⟩
theorem Q3{t:Nd}(h:t.k=38)(hx:BN t=true):t.j.length=1∧Eh (Aa t 0)=true:=by
 rw [← LP] at hx;unfold HN at hx;rw [h] at hx;have hx:((DH t&&BV t 1)&&Eh (Aa t 0))=true:=hx;simp only [Ao,A2,BM] at hx;exact ⟨FE (hx.1.2),hx.2⟩
theorem Wb{t:Nd}(h:t.k=11)(hx:D2 t=true):t.o≠[]∧t.j.length=1∧BN (Aa t 0)=true:=by
 rw [← KX] at hx;unfold GP at hx;rw [h] at hx;have hx:((FK t.o&&BV t 1)&&BN (Aa t 0))=true:=hx;simp only [Ao,A2,BM] at hx;exact ⟨Wn hx.1.1,FE (hx.1.2),hx.2⟩
theorem TF{t:Nd}(h:t.k=12)(hx:D2 t=true):t.j.length=2∧BN (Aa t 0)=true∧BN (Aa t 1)=true:=by
 rw [← KX] at hx;unfold GP at hx;rw [h] at hx;have hx:((DH t&&BV t 2)&&t.j.all BN)=true:=hx;simp only [Ao,A2,BM] at hx;exact ⟨FE (hx.1.2),Hz hx.2 (I1 hx.1.2),Hz hx.2 (I1 hx.1.2)⟩
theorem TD{t:Nd}(h:t.k=16)(hx:D2 t=true):t.j.length=2∧BN (Aa t 0)=true∧BN (Aa t 1)=true:=by
 rw [← KX] at hx;unfold GP at hx;rw [h] at hx;have hx:((DH t&&BV t 2)&&t.j.all BN)=true:=hx;simp only [Ao,A2,BM] at hx;exact ⟨FE (hx.1.2),Hz hx.2 (I1 hx.1.2),Hz hx.2 (I1 hx.1.2)⟩
theorem U5{t:Nd}(h:t.k=13)(hx:D2 t=true):t.j.length=1∧BN (Aa t 0)=true:=by
 rw [← KX] at hx;unfold GP at hx;rw [h] at hx;have hx:((DH t&&BV t 1)&&(Kj (Aa t 0) 30 || Kj (Aa t 0) 33))=true:=hx;simp only [Ao,A2,BM] at hx;exact ⟨FE (hx.1.2),hx.2.elim (fun h=>(Uj h).2) (fun h=>(Uj h).2)⟩
theorem Wl{t:Nd}(h:t.k=14)(hx:D2 t=true):t.j.length=1∧BN (Aa t 0)=true:=by
 rw [← KX] at hx;unfold GP at hx;rw [h] at hx;have hx:((DH t&&BV t 1)&&Kj (Aa t 0) 30)=true:=hx;simp only [Ao,A2,BM] at hx;exact ⟨FE (hx.1.2),(Uj hx.2).2⟩
theorem WF{t:Nd}(h:t.k=15)(hx:D2 t=true):t.j.length=1∧BN (Aa t 0)=true:=by
 rw [← KX] at hx;unfold GP at hx;rw [h] at hx;have hx:((DH t&&BV t 1)&&Kj (Aa t 0) 30)=true:=hx;simp only [Ao,A2,BM] at hx;exact ⟨FE (hx.1.2),(Uj hx.2).2⟩
theorem Ws{t:Nd}(h:t.k=17)(hx:D2 t=true):t.j.length=1∧BN (Aa t 0)=true:=by
 rw [← KX] at hx;unfold GP at hx;rw [h] at hx;have hx:((DH t&&BV t 1)&&BN (Aa t 0))=true:=hx;simp only [Ao,A2,BM] at hx;exact ⟨FE (hx.1.2),hx.2⟩
theorem Xa{t:Nd}(h:t.k=21)(hx:D2 t=true):t.j.length=1∧BN (Aa t 0)=true:=by
 rw [← KX] at hx;unfold GP at hx;rw [h] at hx;have hx:((DH t&&BV t 1)&&BN (Aa t 0))=true:=hx;simp only [Ao,A2,BM] at hx;exact ⟨FE (hx.1.2),hx.2⟩
theorem UW{t:Nd}(h:t.k=20)(hx:D2 t=true):t.j.length≤1∧t.j.all BN=true:=by
 rw [← KX] at hx;unfold GP at hx;rw [h] at hx;have hx:((DH t&&Ac ((t.j.length:Int)≤1))&&t.j.all BN)=true:=hx;simp only [Ao,A2,BM] at hx;exact ⟨by have:=hx.1.2;omega,hx.2⟩
theorem RS{t:Nd}(h:t.k=19)(hx:D2 t=true):t.j.length=2∧(GU (Aa t 0)=true∨BN (Aa t 0)=true)∧Eh (Aa t 1)=true:=by
 rw [← KX] at hx;unfold GP at hx;rw [h] at hx;have hx:(((DH t&&BV t 2)&&(GU (Aa t 0) || BN (Aa t 0)))&&Eh (Aa t 1))=true:=hx;simp only [Ao,A2,BM] at hx;exact ⟨FE (hx.1.1.2),hx.1.2,hx.2⟩
theorem VD{t:Nd}(h:t.k=6)(hx:D2 t=true):Mx t=true:=by
 rw [← KX] at hx;unfold GP at hx;rw [h] at hx;have hx:(Mx t)=true:=hx;exact hx
theorem R7{t:Nd}(h:t.k=10)(hx:D2 t=true):Eh t=true:=by
 rw [← KX] at hx;unfold GP at hx;rw [h] at hx;have hx:(Eh t)=true:=hx;exact hx
theorem SH{t:Nd}(h:t.k=18)(hx:D2 t=true):HY t=true:=by
 rw [← KX] at hx;unfold GP at hx;rw [h] at hx;have hx:(HY t)=true:=hx;exact hx
theorem L6{t:Nd}(hx:Eh t=true):t.j.all D2=true:=by
 rw [← YW,S7] at hx;cases h:(!Ac (t.k=10) || !DH t);rw [h] at hx;exact hx;rw [h] at hx;cases hx
theorem Sa{t:Nd}(hx:HY t=true):t.j.length=3∧BN (Aa t 0)=true∧Eh (Aa t 1)=true∧(Eh (Aa t 2)=true∨HY (Aa t 2)=true∨GU (Aa t 2)=true):=by
 rw [← Zp,S6] at hx;cases h:((!Ac (t.k=18) || !DH t) || !BV t 3);rw [h,AQ] at hx;simp only [Ao,A2] at hx;simp only [Iz,Bool.not_eq_false'] at h;exact ⟨FE (h.2),hx.1.1,hx.1.2,hx.2.elim (fun h=>h.elim .inl fun h=>.inr (.inl h)) fun h=>.inr (.inr h)⟩;rw [h] at hx;cases hx
theorem XS{t:Nd}(hx:Mx t=true):t.o≠[]∧t.j.length=2∧He (Aa t 0)=true∧(GU (Aa t 1)=true∨BN (Aa t 1)=true):=by
 rw [← Yf,SS] at hx;simp only [Ao,A2] at hx;exact ⟨Wn hx.1.1.1.2,FE (hx.1.1.2),hx.1.2,hx.2⟩
theorem U8{t:Nd}(h:t.k=22)(hx:D2 t=true):t.j.all Jv=true:=by
 have hp:Cr t=true:=(CR.1 hx).2;rw [← Zf h] at hp;exact (CR.1 hp).1
theorem UN{t:Nd}(hx:Jv t=true):t.k=23∧t.j.length=2∧L9 (Aa t 0)=true∧Eh (Aa t 1)=true:=by
 unfold Jv at hx;simp only [Ao,BM] at hx;exact ⟨hx.1.1.1.1,FE (hx.1.1.2),hx.1.2,hx.2⟩
theorem Xm{t:Nd}(h:L9 t=true):t.k=9∨D2 t=true:=by
 rw [← Tj,Nb] at h;cases h1:Cs [16,9] t.k;rw [h1,AQ] at h;cases h2:Ac (t.k=13);rw [h2,AQ] at h;cases h3:Ac (t.k=12);rw [h3,AQ] at h;cases h4:Ac (t.k=11);rw [h4] at h;cases h;rw [h4] at h;exact .inr (CR.1 h).1;rw [h3] at h;exact .inr (CR.1 h).1;rw [h2] at h;exact .inr (CR.1 h).1;rw [h1,AL,A2] at h;exact h.elim .inr fun h=>.inl (IB h).1
theorem ZN{t:Nd}(h:D2 t=true):t.k≠9:=by
 intro e;unfold D2 at h;rw [e] at h;rw [show L5 9=false by decide] at h;cases h
def OM(k:Nat):List UInt8:=List.replicate k 9
def Yp:Nat→Nat→List UInt8
 | 0,_=>[]
 | f+1,n=>bif Eo n 10 then [UInt8.ofNat (48+n)] else Yp f (n / 10)++[UInt8.ofNat (48+n % 10)]
def wY(n:Nat):List UInt8:=Yp 20 n
structure MR where
  ex:Nat→List UInt8
  st:Nat→List UInt8
  ls:Nat→List UInt8
  cs:Nat→List UInt8
def W2:MR:=⟨fun _=>[],fun _=>[],fun _=>[],fun _=>[]⟩
def Su(x:MR)(k:Nat):List UInt8:=(([123,10]++x.ls (k+1))++OM k)++[125]
def gH(q:Bool)(s:List UInt8):List UInt8:=bif q then ([40]++s)++[41] else s
def vB:List (List UInt8)→List UInt8
 | []=>[]
 | s::r=>s++r.flatMap fun u=>[44,32]++u
def sX(t:Nd):List UInt8:=bif Ac (t.k=8) then [42]++t.o else bif Ac (t.o=[99,104,97,110]) then [99,104,97,110,32,105,110,116] else bif Ac (t.o=[102,117,110,99]) then [102,117,110,99,40,41] else t.o
section
variable (t:Nd) (x:Nat→MR) (l:List MR)
def TM(i k:Nat):List UInt8:=gH (Ac ((Aa t i).k=32)) ((x i).ex k)
def W4(k:Nat):List UInt8:=gH ((Ac ((Aa t 0).k=32) || Ac ((Aa t 0).k=31)) || Ac ((Aa t 0).k=33)) ((x 0).ex k)
def lQ(k:Nat):List UInt8 :=
 bif Ac (t.k=24) then wY t.num.toNat
 else bif Ac (t.k=25) then (bif Ac (t.num=1) then [116,114,117,101] else [102,97,108,115,101])
 else bif Ac (t.k=26) then [110,105,108]
 else bif Ac (t.k=27) then t.o
 else bif Ac (t.k=34) then ([110,101,119,40]++t.o)++[41]
 else bif Ac (t.k=28) then (W4 t x k++[46])++t.o
 else bif Ac (t.k=29) then ((W4 t x k++[91])++(x 1).ex k)++[93]
 else bif Ac (t.k=30) then ((W4 t x k++[40])++vB ((l.drop 1).map fun y=>y.ex k))++[41]
 else bif Ac (t.k=31) then t.o++TM t x 0 k
 else bif Ac (t.k=33) then [60,45]++TM t x 0 k
 else bif Ac (t.k=32) then (((TM t x 0 k++[32])++t.o)++[32])++TM t x 1 k
 else bif Ac (t.k=35) then ([109,97,107,101,40,91,93,105,110,116,44,32]++(x 0).ex k)++[41]
 else bif Ac (t.k=36) then ([109,97,107,101,40,99,104,97,110,32,105,110,116,44,32]++(x 0).ex k)++[41]
 else bif Ac (t.k=37) then ([108,101,110,40]++(x 0).ex k)++[41]
 else [102,117,110,99,40,41,32]++Su (x 0) k
def Agf(k:Nat):List UInt8:=((([118,97,114,32]++t.o)++[32])++sX (Aa t 0))++(bif Ac ((Aa t 1).k=9) then [] else [32,61,32]++(x 1).ex k)
def Agp(k:Nat):List UInt8:=((([105,102,32]++(x 0).ex k)++[32])++Su (x 1) k)++(bif Ac ((Aa t 2).k=10) then [32,101,108,115,101,32]++Su (x 2) k else bif Ac ((Aa t 2).k=18) then [32,101,108,115,101,32]++(x 2).st k else [])
def Abd(k:Nat):List UInt8 :=
 bif Ac (t.k=6) then Agf t x k
 else bif Ac (t.k=10) then (([123,10]++l.flatMap fun y=>(OM (k+1)++y.st (k+1))++[10])++OM k)++[125]
 else bif Ac (t.k=11) then (t.o++[32,58,61,32])++(x 0).ex k
 else bif Ac (t.k=12) then ((x 0).ex k++[32,61,32])++(x 1).ex k
 else bif Ac (t.k=13) then (x 0).ex k
 else bif Ac (t.k=14) then [103,111,32]++(x 0).ex k
 else bif Ac (t.k=15) then [100,101,102,101,114,32]++(x 0).ex k
 else bif Ac (t.k=16) then ((x 0).ex k++[32,60,45,32])++(x 1).ex k
 else bif Ac (t.k=17) then ([99,108,111,115,101,40]++(x 0).ex k)++[41]
 else bif Ac (t.k=21) then ([112,114,105,110,116,40]++(x 0).ex k)++[41]
 else bif Ac (t.k=18) then Agp t x k
 else bif Ac (t.k=22) then (([115,101,108,101,99,116,32,123,10]++l.flatMap fun y=>y.cs k)++OM k)++[125]
 else bif Ac (t.k=20) then (bif BV t 0 then [114,101,116,117,114,110] else [114,101,116,117,114,110,32]++(x 0).ex k)
 else bif Ac ((Aa t 0).k=9) then [102,111,114,32]++Su (x 1) k
 else (([102,111,114,32]++(x 0).ex k)++[32])++Su (x 1) k
def sU(k:Nat):List UInt8:=(bif Ac ((Aa t 0).k=9) then OM k++[100,101,102,97,117,108,116,58,10] else ((OM k++[99,97,115,101,32])++(x 0).st k)++[58,10])++(x 1).ls (k+1)
end
def wI(l:List MR)(k:Nat):List UInt8:=l.flatMap fun y=>(OM k++y.st k)++[10]
def zY(t:Nd)(l:List MR):MR:=⟨lQ t (fun i=>l.getD i W2) l,Abd t (fun i=>l.getD i W2) l,wI l,sU t (fun i=>l.getD i W2)⟩
def T4(t:Nd):MR:=Jx zY t
abbrev DX:=List UInt8
def cut:DX→DX→Option DX
 | [],s=>some s
 | _::_,[]=>none
 | a::p,b::s=>bif Ac (a=b) then cut p s else none
def hd(s:DX):UInt8:=s.headD 0
def Hl(s:DX):DX:=s.takeWhile MB
def Hs(s:DX):DX:=s.dropWhile MB
def U3(c:UInt8):Bool:=Fx c.toNat
def YH(s:DX):Bool:=!MB (hd s)
def dH:List DX→DX→Option (DX×DX)
 | [],_=>none
 | o::l,s=>match cut (o++[32]) s with
  | some r=>some (o,r)
  | none=>dH l s
def YV(s:DX):Option (DX×DX):=match cut [32] s with
 | some r=>dH Ky r
 | none=>none
def nd(k:Int)(s:DX)(n:Int)(ks:List Nd):Nd:=.mk k s n 0 ks Az 0 0
inductive Tv where
  | e|u|s (x:Nd)|a (l:List Nd)|b|l (l:List Nd)|t|i|c (l:List Nd)
def Agc(s:DX):Option (Nd×DX):=match cut [42] s with
 | some r=>some (nd 8 (Hl r) 0 [],Hs r)
 | none=>match cut [91,93,105,110,116] s with
  | some r=>some (nd 7 [91,93,105,110,116] 0 [],r)
  | none =>
   bif Ac (Hl s=[99,104,97,110]) then (cut [32,105,110,116] (Hs s)).map fun r=>(nd 7 [99,104,97,110] 0 [],r)
   else bif Ac (Hl s=[102,117,110,99]) then (cut [40,41] (Hs s)).map fun r=>(nd 7 [102,117,110,99] 0 [],r)
   else some (nd 7 (Hl s) 0 [],Hs s)
section
variable (p:Tv→DX→Option (Nd×DX))
def wQ(s:DX):Option (Nd×DX) :=
 match cut [40] s with
 | some r=>(p .e r).bind fun x=>(cut [41] x.2).map fun r=>(x.1,r)
 | none =>
  bif U3 (hd s) then some (nd 24 [] (Jw 0 (s.takeWhile U3)) [],s.dropWhile U3)
  else bif Ac (Hl s=[116,114,117,101]) then some (nd 25 [] 1 [],Hs s)
  else bif Ac (Hl s=[102,97,108,115,101]) then some (nd 25 [] 0 [],Hs s)
  else bif Ac (Hl s=[110,105,108]) then some (nd 26 [] 0 [],Hs s)
  else bif Ac (Hl s=[110,101,119]) then (cut [40] (Hs s)).bind fun r=>(cut [41] (Hs r)).map fun r1=>(nd 34 (Hl r) 0 [],r1)
  else bif Ac (Hl s=[109,97,107,101]) then
   match cut [40,91,93,105,110,116,44,32] (Hs s) with
   | some r=>(p .e r).bind fun x=>(cut [41] x.2).map fun r=>(nd 35 [] 0 [x.1],r)
   | none=>(cut [40,99,104,97,110,32,105,110,116,44,32] (Hs s)).bind fun r=>(p .e r).bind fun x=>(cut [41] x.2).map fun r=>(nd 36 [] 0 [x.1],r)
  else bif Ac (Hl s=[108,101,110]) then (cut [40] (Hs s)).bind fun r=>(p .e r).bind fun x=>(cut [41] x.2).map fun r=>(nd 37 [] 0 [x.1],r)
  else bif Ac (Hl s=[102,117,110,99]) then (cut [40,41,32,123,10] (Hs s)).bind fun r=>(p .b r).map fun x=>(nd 38 [] 0 [x.1],x.2)
  else some (nd 27 (Hl s) 0 [],Hs s)
def yF(s:DX):Option (Nd×DX) :=
 match cut [45] s with
 | some r=>(p .u r).map fun x=>(nd 31 [45] 0 [x.1],x.2)
 | none=>match cut [33] s with
  | some r=>(p .u r).map fun x=>(nd 31 [33] 0 [x.1],x.2)
  | none=>match cut [60,45] s with
   | some r=>(p .u r).map fun x=>(nd 33 [] 0 [x.1],x.2)
   | none=>(wQ p s).bind fun x=>p (.s x.1) x.2
def vX(s:DX):Option (Nd×DX):=(p .u s).bind fun x=>match YV x.2 with
 | some o=>(p .u o.2).map fun y=>(nd 32 o.1 0 [x.1,y.1],y.2)
 | none=>some x
def qN(x:Nd)(s:DX):Option (Nd×DX) :=
 match cut [46] s with
 | some r=>p (.s (nd 28 (Hl r) 0 [x])) (Hs r)
 | none=>match cut [91] s with
  | some r=>(p .e r).bind fun y=>(cut [93] y.2).bind fun r=>p (.s (nd 29 [] 0 [x,y.1])) r
  | none=>match cut [40] s with
   | some r=>(p (.a []) r).bind fun l=>p (.s (nd 30 [] 0 (x::l.1.j))) l.2
   | none=>some (x,s)
def oU(l:List Nd)(s:DX):Option (Nd×DX) :=
 match cut [41] s with
 | some r=>some (nd 0 [] 0 l,r)
 | none=>(p .e s).bind fun x=>match cut [44,32] x.2 with
  | some r=>p (.a (l++[x.1])) r
  | none=>(cut [41] x.2).map fun r=>(nd 0 [] 0 (l++[x.1]),r)
def Qf(s:DX):DX:=s.dropWhile fun c=>Ac (c=9)
def zJ(s:DX):Bool:=Ac (hd s=125) || Ep [[99,97,115,101],[100,101,102,97,117,108,116]] (Hl s)
def sI(l:List Nd)(s:DX):Option (Nd×DX) :=
 bif zJ (Qf s) then some (nd 10 [] 0 l,Qf s)
 else (p .t (Qf s)).bind fun x=>(cut [10] x.2).bind fun r=>p (.l (l++[x.1])) r
def sQ(s:DX):Option (Nd×DX):=(p (.l []) s).bind fun x=>(cut [125] x.2).map fun r=>(x.1,r)
def XJ(s:DX):Option (Nd×DX):=(cut [123,10] s).bind fun r=>p .b r
def rY(s:DX):Option (Nd×DX):=(p .e s).bind fun x=>(cut [32] x.2).bind fun r=>(XJ p r).bind fun y =>
 match cut [32,101,108,115,101,32,105,102,32] y.2 with
 | some r=>(p .i r).map fun z=>(nd 18 [] 0 [x.1,y.1,z.1],z.2)
 | none=>match cut [32,101,108,115,101,32] y.2 with
  | some r=>(XJ p r).map fun z=>(nd 18 [] 0 [x.1,y.1,z.1],z.2)
  | none=>some (nd 18 [] 0 [x.1,y.1,nd 9 [] 0 []],y.2)
def Aen(l:List Nd)(s:DX):Option (Nd×DX) :=
 match cut [125] (Qf s) with
 | some r=>some (nd 22 [] 0 l,r)
 | none=>match cut [100,101,102,97,117,108,116,58,10] (Qf s) with
  | some r=>(p (.l []) r).bind fun b=>p (.c (l++[nd 23 [] 0 [nd 9 [] 0 [],b.1]])) b.2
  | none=>(cut [99,97,115,101,32] (Qf s)).bind fun r=>(p .t r).bind fun x=>(cut [58,10] x.2).bind fun r=>(p (.l []) r).bind fun b=>p (.c (l++[nd 23 [] 0 [x.1,b.1]])) b.2
def jC(k:Int)(s:DX):Option (Nd×DX):=(cut [40] s).bind fun r=>(p .e r).bind fun x=>(cut [41] x.2).map fun r=>(nd k [] 0 [x.1],r)
def gN(k:Int)(s:DX):Option (Nd×DX):=(cut [32] s).bind fun r=>(p .e r).map fun x=>(nd k [] 0 [x.1],x.2)
def tB(s:DX):Option (Nd×DX):=(cut [32] s).bind fun r=>(cut [32] (Hs r)).bind fun r1=>(Agc r1).bind fun y =>
 match cut [32,61,32] y.2 with
 | some r2=>(p .e r2).map fun z=>(nd 6 (Hl r) 0 [y.1,z.1],z.2)
 | none=>some (nd 6 (Hl r) 0 [y.1,nd 9 [] 0 []],y.2)
def Aey(s:DX):Option (Nd×DX):=(p .e s).bind fun x =>
 match cut [32,58,61,32] x.2 with
 | some r=>(p .e r).map fun y=>(nd 11 x.1.o 0 [y.1],y.2)
 | none=>match cut [32,61,32] x.2 with
  | some r=>(p .e r).map fun y=>(nd 12 [] 0 [x.1,y.1],y.2)
  | none=>match cut [32,60,45,32] x.2 with
   | some r=>(p .e r).map fun y=>(nd 16 [] 0 [x.1,y.1],y.2)
   | none=>some (nd 13 [] 0 [x.1],x.2)
def Adr(s:DX):Option (Nd×DX) :=
 match cut [123,10] s with
 | some r=>p .b r
 | none =>
  bif Ac (Hl s=[118,97,114]) then tB p (Hs s)
  else bif Ac (Hl s=[103,111]) then gN p 14 (Hs s)
  else bif Ac (Hl s=[100,101,102,101,114]) then gN p 15 (Hs s)
  else bif Ac (Hl s=[99,108,111,115,101]) then jC p 17 (Hs s)
  else bif Ac (Hl s=[112,114,105,110,116]) then jC p 21 (Hs s)
  else bif Ac (Hl s=[105,102]) then (cut [32] (Hs s)).bind fun r=>p .i r
  else bif Ac (Hl s=[115,101,108,101,99,116]) then (cut [32,123,10] (Hs s)).bind fun r=>p (.c []) r
  else bif Ac (Hl s=[114,101,116,117,114,110]) then match cut [32] (Hs s) with
   | some r=>(p .e r).map fun x=>(nd 20 [] 0 [x.1],x.2)
   | none=>some (nd 20 [] 0 [],Hs s)
  else bif Ac (Hl s=[102,111,114]) then match cut [32,123,10] (Hs s) with
   | some r=>(p .b r).map fun x=>(nd 19 [] 0 [nd 9 [] 0 [],x.1],x.2)
   | none=>(cut [32] (Hs s)).bind fun r=>(p .e r).bind fun x=>(cut [32] x.2).bind fun r=>(XJ p r).map fun y=>(nd 19 [] 0 [x.1,y.1],y.2)
  else Aey p s
def xT:Tv→DX→Option (Nd×DX)
 | .e,s=>vX p s
 | .u,s=>yF p s
 | .s x,s=>qN p x s
 | .a l,s=>oU p l s
 | .b,s=>sQ p s
 | .l l,s=>sI p l s
 | .t,s=>Adr p s
 | .i,s=>rY p s
 | .c l,s=>Aen p l s
end
def QY:Nat→Tv→DX→Option (Nd×DX)
 | 0=>fun _ _=>none
 | f+1=>xT (QY f)
section
variable {t:Nd} {x:Nat→MR} {l:List MR} {k:Nat}
end
theorem mN{t:Nd}(h:BN t=true):t.k=24∨t.k=25∨t.k=26∨t.k=27∨t.k=34∨t.k=28∨t.k=29∨t.k=30∨t.k=31∨t.k=33∨t.k=32∨t.k=35∨t.k=36∨t.k=37∨t.k=38:=by
 have:=(OR _ _).1 (CR.1 h).1;simp only [Cj,CC,or_false] at this;omega
theorem Agb{t:Nd}(h:D2 t=true):t.k=6∨t.k=10∨t.k=11∨t.k=12∨t.k=13∨t.k=14∨t.k=15∨t.k=16∨t.k=17∨t.k=21∨t.k=18∨t.k=22∨t.k=20∨t.k=19:=by
 have:=(OR _ _).1 (CR.1 h).1;simp only [Cj,CC,or_false] at this;omega
def pZ:List DX:=[[118,97,114],[103,111],[100,101,102,101,114],[99,108,111,115,101],[112,114,105,110,116],[105,102],[115,101,108,101,99,116],[114,101,116,117,114,110],[102,111,114],[99,97,115,101],[100,101,102,97,117,108,116]]
def vP(c:UInt8):Bool:=MB c || (Ac (c=40) || (Ac (c=45) || (Ac (c=33) || Ac (c=60))))
structure Ahk (s:DX):Prop where
  o:vP (hd s)=true
  w:Ep pZ (Hl s)=false
theorem bY{t:Nd}(h:t.j.length=1):t.j=[Aa t 0]:=by
 match hk:t.j with
 | [a]=>rw [Aa,hk];rfl
 | []=>rw [hk] at h;cases h
 | _::_::_=>rw [hk] at h;simp at h
theorem mC{t:Nd}(h:t.j.length=2):t.j=[Aa t 0,Aa t 1]:=by
 match hk:t.j with
 | [a,b]=>rw [Aa,Aa,hk];rfl
 | []=>rw [hk] at h;cases h
 | [_]=>rw [hk] at h;cases h
 | _::_::_::_=>rw [hk] at h;simp at h
theorem Abz{t:Nd}(h:t.j.length=3):t.j=[Aa t 0,Aa t 1,Aa t 2]:=by
 match hk:t.j with
 | [a,b,c]=>rw [Aa,Aa,Aa,hk];rfl
 | []=>rw [hk] at h;cases h
 | [_]=>rw [hk] at h;cases h
 | [_,_]=>rw [hk] at h;cases h
 | _::_::_::_::_=>rw [hk] at h;simp at h
theorem P7{t:Nd}(h:t.j.length=1):count t=1+count (Aa t 0):=by rw [J7,bY h];simp
theorem OG{t:Nd}(h:t.j.length=2):count t=1+count (Aa t 0)+count (Aa t 1):=by rw [J7,mC h];simp;omega
theorem Sw{t:Nd}(h:t.j.length=3):count t=1+count (Aa t 0)+count (Aa t 1)+count (Aa t 2):=by rw [J7,Abz h];simp;omega
def Yc(r:DX):Bool:=YH r&&(Ac (hd r≠46)&&(Ac (hd r≠91)&&Ac (hd r≠40)))
structure Ahn (t:Nd):Prop where
  e:BN t=true→∀ k r f,Yc r=true→YV r=none→10*count t≤f+2→QY f .e ((T4 t).ex k++r)=some (LW t,r)
  u:BN t=true→t.k≠32→∀ k r f,Yc r=true→10*count t≤f+3→QY f .u ((T4 t).ex k++r)=some (LW t,r)
  s:BN t=true→t.k≠31→t.k≠32→t.k≠33→∀ k r f,YH r=true→10*count t≤f+4→∃ f',f+4≤f'+10*count t∧QY f .u ((T4 t).ex k++r)=QY f' (.s (LW t)) r
  b:Eh t=true→∀ k r f,10*count t≤f+2→QY f .b (((T4 t).ls (k+1)++OM k)++([125]++r))=some (LW t,r)
section
variable {p:Tv→DX→Option (Nd×DX)}
end
def EP(lo:Nat)(X:List Nat)(w:Ae)(ks:List Nd)(v:Bf):Prop:=Bv w (fun k=>(lo≤k∧k∉X)∧G8 w k) ks v
section
variable {lo lo' n0 j b:Nat} {X:List Nat} {w w':Ae} {ks:List Nd} {v:Bf}
theorem Gb.x(h:Gb lo w ks v)(hX:∀ j∈X,j<lo):EP lo X w ks v:=Bv.mono h fun k hk _=>⟨⟨hk.1,fun hm=>by have:=hX k hm;omega⟩,hk.2⟩
theorem EP.W(h:EP lo X w ks v)(hl:lo'≤lo):Gb lo' w ks v:=Bv.mono h fun k hk _=>⟨CW hl hk.1.1,hk.2⟩
theorem EP.A(h:EP lo X w ks v)(g:G w w'):EP lo X w' ks v:=HQ h (fun k hk _=>⟨hk.1,hk.2.A g⟩) fun k hk aa=>g.block aa
theorem EP.gt(h:EP lo X w ks v)(g:AP DU n0 w w'):EP lo X w' ks v:=HQ h (fun k hk _=>⟨hk.1,hk.2.gt g rfl⟩) fun k hk aa=>g.block k aa (.inr (hk.2.aw rfl))
theorem EP.C(h:EP lo X w ks v)(hg:w.grownBy w' (some j))(hj:j<lo∨j∈X):EP lo X w' ks v:=by
 have ab:∀ k,(lo≤k∧k∉X)→k≠j:=fun k hk e=>by
  subst e;rcases hj with hj|hj;omega;exact hk.2 hj
 have hs:∀ k,(lo≤k∧k∉X)→k<w.heap.size→w'.heap[k]? = w.heap[k]?:=fun k hk aa=>hg.block k aa fun e=>by injection e with e;exact ab k hk e
 exact HQ h (fun k hk aa=>⟨hk.1,hk.2.ac (hs k hk.1 aa)⟩) fun k hk aa=>hs k hk.1 aa
theorem EP.new{e:AD}{l:List Bf}(h:EP lo X w ks v)(N:Ki w w' b e l):EP lo (b::X) w' ks v:=by
 have:=N.y
 exact HQ h (fun k hk aa=>⟨⟨hk.1.1,fun hm=>by
  rcases Cj.1 hm with e|e;omega;exact hk.1.2 e⟩,hk.2.A N.g⟩) fun k hk aa=>N.g.block aa
theorem EP.an{e:AD}{l:List Bf}(h:EP lo X w ks v)(hg:w.grownBy w' (some j))(hB:Ax w j e l)(he:Bu e 26=false):EP lo X w' ks v:=by
 have ab:∀ k,G8 w k→k≠j:=fun k ⟨cs,fr,hk⟩ q=>by
  subst q;unfold Ax at hB;rw [hB] at hk;injection hk with hk;injection hk with _ hk;subst hk;simp at he
 exact HQ h (fun k hk aa=>⟨hk.1,hk.2.ac (hg.block k aa fun e=>by injection e with e;exact ab k hk.2 e)⟩) fun k hk aa=>hg.block k aa fun e=>by injection e with e;exact ab k hk.2 e
end
theorem Dp.af{Y:List Nat}{lo:Nat}{w w':Ae}{ks:List Nd}{s:Bf}{j:Nat}{e:AD}{l:List Bf}(h:Dp Y lo w ks s)(hg:w.grownBy w' (some j))(hB:Ax w j e l)(he:Bu e 26=false):Dp Y lo w' ks s:=by
 have ab:∀ k,G8 w k→k≠j:=fun k ⟨cs,fr,hk⟩ q=>by
  subst q;unfold Ax at hB;rw [hB] at hk;injection hk with hk;injection hk with _ hk;subst hk;simp at he
 have ac:=h.nd;exact Qg h (fun k hk aa=>⟨hk.1,hk.2.ac (hg.block k aa fun e=>by injection e with e;exact ab k hk.2 e)⟩) (fun k hk aa=>hg.block k aa fun e=>by injection e with e;exact ab k hk.2 e) fun xs h'=>Dg h' hg (.inr fun e=>ab j (ac j e) rfl)
theorem Fl{lo m0:Nat}{X Y:List Nat}{w:Ae}{t:Nd}{v s:Bf}(h:EP lo X w t.j v)(hm:m0≤lo)(hY:∀ j∈Y,j∈X∨j<lo)(hs:∀ j,s.ownBlock=some j→j∈X∨j<lo):FC w (fun k=>(J3 m0 Y k∧G8 w k)∧some k≠s.ownBlock) [t] (De t v):=by
 refine DG (Bv.mono h fun k hk _=>⟨⟨⟨CW hm hk.1.1,fun hy=>?_⟩,hk.2⟩,fun e=>?_⟩);rcases hY k hy with q|q;exact hk.1.2 q;have:=hk.1.1;omega;rcases hs k e.symm with q|q;exact hk.1.2 q;have:=hk.1.1;omega
@[reducible] def Sb(n0:Nat):H8:=⟨fun w w'=>AP DU n0 w w',AP.refl DU n0,fun h k=>AP.trans h k⟩
theorem Gi{w:Ae}{D:Nat→Prop}{t:Nd}{p:Option Addr}{c:Nat}(hk:Bv w D t.j (.slice p t.j.length c)){i:Nat}(h:i<t.j.length):D (E5 p):=by
 obtain ⟨p',c',hpe,_,ab⟩:=hk;injection hpe with hpe _ aa;subst hpe aa;obtain ⟨b2,o2,rfl,hD,_⟩:=ab O;exact hD
theorem BO{t:Nd}{lo:Nat}{r v:Bf}{w:Ae}(e:r=Cd t v)(h:Gb lo w t.j v):Ii t lo r w:=e▸TV h
def Pc(M:Nat)(F:Nd)(fn:FuncId)(t:Nd)(X:Ak→Nd×Ak):Prop:=∀ {n0 b:Nat} {S:Ak} {w:Ae} {v:Bf} {N:Nat},D5 F n0 b S w→Bv w (fun k=>k<n0) t.j v→EO S N→N+count t≤M→
 Bz An fn #[.pointer (some ⟨b,0,none⟩),Cd t v] w fun r w'=>Ii (X S).1 w.heap.size r w'∧D5 F n0 b (X S).2 w'∧AP DU n0 w w'
abbrev Dv:=Pc 1000000
theorem Dv.to{M:Nat}{F:Nd}{fn:FuncId}{t:Nd}{X:Ak→Nd×Ak}(H:Pc M F fn t X){n0 b:Nat}{S:Ak}{w:Ae}{v:Bf}{N m0:Nat}(Z:List Nat)(h:D5 F n0 b S w)(hk:Bv w (fun k=>k<n0) t.j v)(hb:EO S N)(hc:N+count t≤M)(hZ:∀ j∈Z,j<w.heap.size)(hm:m0≤w.heap.size) :
 Bz An fn #[.pointer (some ⟨b,0,none⟩),Cd t v] w fun r w'=>(∃ p c,r=Cd (X S).1 (.slice p (X S).1.j.length c)∧m0≤w.heap.size∧EP w.heap.size Z w' (X S).1.j (.slice p (X S).1.j.length c))∧D5 F n0 b (X S).2 w'∧AP DU n0 w w' :=
 (H h hk hb hc).mono fun r w' hr=>by
 obtain ⟨⟨p,c,e,k⟩,h1,h2⟩:=hr;exact ⟨⟨p,c,e,hm,Gb.x k hZ⟩,h1,h2⟩
def Nq(F:Nd)(t:Nd):Prop:=∀ {n0 b:Nat} {S:Ak} {w:Ae} {v:Bf} {N:Nat},D5 F n0 b S w→Bv w (fun k=>k<n0) t.j v→EO S N→N+count t≤1000000→
 Bz An 148 #[.pointer (some ⟨b,0,none⟩),Cd t v] w fun r w'=>(∃ u,r = .tuple #[u,.bool ((Af F t).N S).1.2]∧Ii ((Af F t).N S).1.1 w.heap.size u w')∧D5 F n0 b ((Af F t).N S).2 w'∧AP DU n0 w w'
def P9(F:Nd)(t:Nd):Prop:=∀ {n0 b:Nat} {S:Ak} {w:Ae} {v:Bf} {N:Nat},D5 F n0 b S w→Bv w (fun k=>k<n0) t.j v→EO S N→N+count t≤1000000→
 Bz An 172 #[.pointer (some ⟨b,0,none⟩),Cd t v] w fun r w'=>(∃ u,r = .tuple #[u,.bool ((Af F t).rcv S).2]∧Ii ((Af F t).rcv S).1 w.heap.size u w')∧G w w'
def UG(w:Ae)(l:List Bo)(v:Bf):Prop:=∃ p c,v = .slice p l.length c∧(0<l.length→∃ b o cs fr,p=some ⟨b,o,none⟩∧w.heap[b]? = some (.cells cs 24 fr)∧CQ w b o (l.flatMap Ek))
def QX(F:Nd)(t:Nd):Prop:=∀ {n0 b:Nat} {S:Ak} {w:Ae} {v:Bf} {N:Nat},D5 F n0 b S w→Bv w (fun k=>k<n0) t.j v→EO S N→N+count t≤1000000→
 Bz An 162 #[.pointer (some ⟨b,0,none⟩),Cd t v] w fun r w'=>(∃ u l,r = .tuple #[u,l,D7 ((Af F t).K S).1.2.2]∧Ii ((Af F t).K S).1.1 w.heap.size u w'∧UG w' ((Af F t).K S).1.2.1 l)∧D5 F n0 b ((Af F t).K S).2 w'∧AP DU n0 w w'
structure KP (F t:Nd):Prop where
  ex:BN t=true→Dv F 121 t (Af F t).ex
  st:D2 t=true→Dv F 88 t (Af F t).st
  H:Eh t=true→Dv F 117 t (Af F t).H
  M:Eh t=true→Pc 1000001 F 64 t (Af F t).M
  ifs:HY t=true→Dv F 118 t (Af F t).ifs
  N:BN t=true→t.k=28→Nq F t
  rcv:BN t=true→P9 F t
  K:BN t=true→QX F t
theorem aT(F k:Nd)(S:Ak):BW (count k) S (GH k (Af F k) S).2:=by
 unfold GH;cases Ac (k.k=9);exact ((EG F k).ex S).I _ _ _;exact (BW.refl S).mono (Cq _)
theorem iK{F t:Nd}(hx:t.k≠9→Dv F 121 t (Af F t).ex):Dv F 122 t (GH t (Af F t)):=by
 intro n0 b S w v N h ab hb ac;obtain ⟨p,c,rfl,_⟩:=id ab;have af:=h.lt;have g:=AP.refl DU n0 w;refine Cu 20 [0,1] Tryz.func122 ?_;refine CT fun b3 _ ga _ g E=>?_;have h:=Ar h;have ab:=Ar ab;refine A5 fun b4 _ ga _ g E=>?_;have h:=Ar h;have ab:=Ar ab;refine Aw (fun h1=>?_) fun h1=>?_;have h1:t.k=9:=AH h1;refine Ad ?_;refine AO (Is t _ _ _) ?_;rintro _ _ ⟨rfl,ga⟩;refine A4 fun g E=>?_;have h:=AV h;refine AX fun _ ga Ca g E h=>?_;refine AN ?_;have e:GH t (Af F t) S=(DJ t,S):=by unfold GH;rw [BU h1];rfl
 rw [e];exact ⟨BO (t:=DJ t) rfl (IL _ _),h,g⟩;have h1:t.k≠9:=CF h1;refine Ad ?_;refine AO (Dv.to (hx h1) [b3,b4] h ab hb ac (E.Q Br) g.size) ?_;rintro _ _ ⟨⟨ae,ag,rfl,ad,aa⟩,h,ga⟩;refine A4 fun g E=>?_;refine A5 fun _ _ ga _ g E=>?_;have aa:=Bq aa;have h:=Ar h;refine AX fun _ ga Ca g E h=>?_;have aa:=AK aa;refine Ad ?_;refine AO (LQ ((Af F t).ex S).1 _ _ 2 t.z h) ?_;rintro _ _ ⟨rfl,h,ga⟩;refine A4 fun g E=>?_;have aa:=DP aa;refine AX fun _ ga Ca g E h=>?_;have aa:=AK aa;refine AN ?_;have e:GH t (Af F t) S=(((Af F t).ex S).1,DA ((Af F t).ex S).1 2 t.z ((Af F t).ex S).2):=by unfold GH;rw [Aq h1];rfl
 rw [e];exact ⟨BO rfl (aa.W ad),h,g⟩
theorem Abm{F t:Nd}(hx:Pc 1000001 F 64 t (Af F t).M):Dv F 117 t (Af F t).H:=by
 intro n0 b S w v N h ab hb al;have e:(Af F t).H S=(((Af F t).M (El S)).1,IY ((Af F t).M (El S)).2):=by rw [GL];rfl
 rw [e];obtain ⟨p,c,rfl,_⟩:=id ab;have am:=h.lt;have aj:=hb.sc;have ct:=JY t;have ac:EO (El S) (N+1):=⟨by have:=hb.vl;show S.F.length≤_;omega,by have:=hb.nl;show S.next.length≤_;omega,fun k hk=>by have:=hb.nx k hk;omega,hb.lv,by show S.w+1≤_;omega,fun v hv=>by have:=hb.vs v hv;omega⟩;have hs:=(EG F t).M (El S);have ad:=hs.bd _ ac;have ae:1≤((Af F t).M (El S)).2.w:=by rw [hs.w];exact Nat.le_add_left 1 _
 have ao:=ad.sc;have an:=ad.vl;have af:((Af F t).M (El S)).2.w≤100000000:=by omega
 have ag:((Af F t).M (El S)).2.F.length≤100000000:=by omega
 have g:=AP.refl DU n0 w;refine Cu 14 [0,1] Tryz.func117 ?_;refine CT fun b3 _ ga _ g E=>?_;have h:=Ar h;have ab:=Ar ab;refine A5 fun b4 _ ga _ g E=>?_;have h:=Ar h;have ab:=Ar ab;refine Ad ?_;refine AO (bZ h O) ?_;rintro _ _ ⟨rfl,h,ga⟩;refine A4 fun g E=>?_;have ab:=F2 ab;refine Ad ?_;refine AO (Dv.to (hx) [b3,b4] h ab ac O (E.Q Br) g.size) ?_;rintro _ _ ⟨⟨ai,ak,rfl,ah,aa⟩,h,ga⟩;refine A4 fun g E=>?_;refine A5 fun _ _ ga _ g E=>?_;have aa:=Bq aa;have h:=Ar h;refine AX fun _ ga Ca g E h=>?_;have aa:=AK aa;refine Ad ?_;refine AO (TQ h af ae ag) ?_;rintro _ _ ⟨rfl,h,ga⟩;refine A4 fun g E=>?_;have aa:=DP aa;refine AX fun _ ga Ca g E h=>?_;have aa:=AK aa;refine AN ?_;exact ⟨BO rfl (aa.W ah),h,g⟩
theorem yD{F t:Nd}(K:∀ i,i<t.j.length→KP F (Aa t i))(hx:HY t=true):Dv F 118 t (Af F t).ifs:=by
 intro n0 b S w v N h ac hb a8;obtain ⟨hl,he,am,al⟩:=Sa hx
 have e:(Af F t).ifs S=Jc t (fun i=>Af F (Aa t i)) S:=by
  rw [GL];show Jc t (Av F t) S=_;unfold Jc;rw [Dq (show 0<t.j.length by omega),Dq (show 1<t.j.length by omega),Dq (show 2<t.j.length by omega)]
 rw [e];obtain ⟨p,c,rfl,_⟩:=id ac;have bg:=h.lt;have a5:=Sw hl;have c0:=JY (Aa t 0);have C0:Dv F 122 (Aa t 0) (GH (Aa t 0) (Af F (Aa t 0))):=iK (F:=F) (t:=Aa t 0) (fun _=>(K 0 O).ex he);have Q1:=K 1 O;have Q2:=K 2 O;have ah:=(aT F (Aa t 0) S).bd _ hb;have ai:=((EG F (Aa t 1)).H (GH (Aa t 0) (Af F (Aa t 0)) S).2).bd _ ah;have g:=AP.refl DU n0 w;refine Cu 55 [0,1] Tryz.func118 ?_;refine CT fun b3 _ ga _ g E=>?_;have h:=Ar h;have ac:=Ar ac;refine A5 fun b4 _ ga _ g E=>?_;have h:=Ar h;have ac:=Ar ac;refine Ad ?_;refine AO (Is t _ _ _) ?_;rintro _ _ ⟨rfl,ga⟩;refine A4 fun g E=>?_;have h:=AV h;have ac:=AV ac;refine A5 fun b5 _ ga _ g E=>?_;have h:=Ar h;have ac:=Ar ac;refine AX fun _ ga Ca g E h=>?_;have ac:=Co ac;obtain ⟨hpe,a1,aw,hcell,ad⟩:=Ba ac (i:=0) O;refine Ad ?_;refine AO (Dv.to (C0) [b3,b4,b5] h ad hb O (E.Q Br) g.size) ?_;rintro _ _ ⟨⟨a9,bc,rfl,ak,aa⟩,h,ga⟩;refine A4 fun g E=>?_;have ac:=F2 ac;refine A5 fun b6 _ ga _ g E=>?_;have aa:=Bq aa;have h:=Ar h;have ac:=Ar ac;refine AX fun _ ga Ca g E h=>?_;have ac:=Co ac;have aa:=AK aa;obtain ⟨hpe,av,ar,hcell,ad⟩:=Ba ac (i:=1) O;refine Ad ?_;refine AO (Dv.to (Q1.H am) [b3,b4,b5,b6] h ad ah O (E.Q Br) g.size) ?_;rintro _ _ ⟨⟨be,bb,rfl,aj,ab⟩,h,ga⟩;refine A4 fun g E=>?_;have ac:=F2 ac;have aa:=DP aa;refine A5 fun b7 _ ga _ g E=>?_;have aa:=Bq aa;have ab:=Bq ab;have h:=Ar h;have ac:=Ar ac;refine AX fun _ ga Ca g E h=>?_;have ac:=Co ac;have aa:=AK aa;have ab:=AK ab
 obtain ⟨hpe,a3,a4,hcell,ad⟩:=Ba ac (i:=2) O;refine Ad ?_;refine AO (Is (Aa t 2) _ _ _) ?_;rintro _ _ ⟨rfl,ga⟩;refine A4 fun g E=>?_;have h:=AV h;have ac:=AV ac;have aa:=AV aa;have ab:=AV ab;refine A5 fun b8 _ ga _ g E=>?_;have aa:=Bq aa;have ab:=Bq ab;have h:=Ar h;have ac:=Ar ac;refine AX fun _ ga Ca g E h=>?_;have ac:=Co ac;have aa:=AK aa;have ab:=AK ab;obtain ⟨hpe,au,ax,hcell,ad⟩:=Ba ac (i:=2) O;refine Aw (fun h1=>?_) fun h1=>?_;have h1:(Aa t 2).k=10:=AH h1;have Ga:Eh (Aa t 2)=true:=al.elim id fun h=>h.elim (fun h=>absurd (AH (CR.1 h).1) O) fun h=>absurd (IB h).1 O;obtain ⟨hpe,aq,ay,hcell,ad⟩:=Ba ac (i:=2) O;refine Ad ?_;refine AO (Dv.to (Q2.H Ga) [b3,b4,b5,b6,b7,b8] h ad ai O (E.Q Br) g.size) ?_;rintro _ _ ⟨⟨bf,a7,rfl,an,ae⟩,h,ga⟩;refine A4 fun g E=>?_;have aa:=DP aa;have ab:=DP ab;refine AX fun _ ga Ca g E h=>?_;have aa:=AK aa;have ab:=AK ab;have ae:=AK ae;refine Ck fun _ _ ga ag g E=>?_;have aa:=Bq aa;have ab:=Bq ab;have ae:=Bq ae;have h:=Ar h;refine AX fun _ ga Ca g E h=>?_;have aa:=AK aa;have ab:=AK ab;have ae:=AK ae;refine AX fun _ ga Ca g E h=>?_;have aa:=AK aa;have ab:=AK ab;have ae:=AK ae;refine AN ?_;unfold Jc;dsimp only;rw [BU h1];exact ⟨BO (t:=AF t [_,_,_] Az) rfl (Ec (ks:=[_,_,_]) ⟨ag,DK E.J⟩ E.J.row (Gw (aa.W ak) (Gw (ab.W aj) (DG (ae.W an)))) (AA _)),h,g⟩;have h1:(Aa t 2).k≠10:=CF h1;refine Aw (fun h2=>?_) fun h2=>?_
 have h2:(Aa t 2).k=18:=AH h2;have ao:HY (Aa t 2)=true:=al.elim (fun h=>absurd (Mm h) O) fun h=>h.elim id fun h=>absurd (IB h).1 O;obtain ⟨hpe,a2,az,hcell,ad⟩:=Ba ac (i:=2) O;refine Ad ?_;refine AO (Dv.to (Q2.ifs ao) [b3,b4,b5,b6,b7,b8] h ad ai O (E.Q Br) g.size) ?_;rintro _ _ ⟨⟨ba,a6,rfl,ap,af⟩,h,ga⟩;refine A4 fun g E=>?_;have aa:=DP aa;have ab:=DP ab;refine AX fun _ ga Ca g E h=>?_;have aa:=AK aa;have ab:=AK ab;have af:=AK af;refine Ck fun _ _ ga ag g E=>?_;have aa:=Bq aa;have ab:=Bq ab;have af:=Bq af;have h:=Ar h;refine AX fun _ ga Ca g E h=>?_;have aa:=AK aa;have ab:=AK ab;have af:=AK af;refine AX fun _ ga Ca g E h=>?_;have aa:=AK aa;have ab:=AK ab;have af:=AK af;refine AN ?_;unfold Jc;dsimp only;rw [Aq h1,BU h2];exact ⟨BO (t:=AF t [_,_,_] Az) rfl (Ec (ks:=[_,_,_]) ⟨ag,DK E.J⟩ E.J.row (Gw (aa.W ak) (Gw (ab.W aj) (DG (af.W ap)))) (AA _)),h,g⟩;have h2:(Aa t 2).k≠18:=CF h2;refine Ck fun _ _ ga ag g E=>?_;have aa:=Bq aa;have ab:=Bq ab;have h:=Ar h;refine AX fun _ ga Ca g E h=>?_;have aa:=AK aa;have ab:=AK ab;refine AX fun _ ga Ca g E h=>?_;have aa:=AK aa;have ab:=AK ab;refine AN ?_;unfold Jc;dsimp only;rw [Aq h1,Aq h2];exact ⟨BO (t:=AF t [_,_,DJ (Aa t 2)] Az) rfl (Ec (ks:=[_,_,DJ (Aa t 2)]) ⟨ag,DK E.J⟩ E.J.row (Gw (aa.W ak) (Gw (ab.W aj) (DG (IL _ _)))) (AA _)),h,g⟩
def Nv(v:Dz):List Bf:=[Cg v.name,.int .i64 v.typ.k,Cg v.typ.name,.int .i64 v.num,.int .i64 v.D]
theorem Agj(v:Dz):(Nv v).length=5:=rfl
structure G2 (tv:AD) (n0:Nat) (w:Ae) (vs:List Bf) (sc:List (List Dz)):Prop where
  len:vs.length=sc.length
  row:∀ (i:Nat) (v:Bf) (l:List Dz),vs[i]? = some v→sc[i]? = some l→w.ownsRow n0 tv 5 v l.length (l.flatMap Nv)
  dis:∀ (i j:Nat) (v u:Bf),vs[i]? = some v→vs[j]? = some u→i≠j→v.ownBlock=none∨v.ownBlock≠u.ownBlock
section
variable {tv:AD} {n0:Nat} {w w':Ae} {vs:List Bf} {sc:List (List Dz)}
theorem G2.ex(h:G2 tv n0 w vs sc){i:Nat}{v:Bf}(hv:vs[i]? = some v):∃ l,sc[i]? = some l∧w.ownsRow n0 tv 5 v l.length (l.flatMap Nv):=by
 have hi:i<sc.length:=by rw [← h.len];exact (KJ.1 hv).1
 exact ⟨sc[i],Dr hi,h.row i _ _ hv (Dr hi)⟩
theorem G2.ac(h:G2 tv n0 w vs sc)(hs:∀ (i:Nat) (v:Bf),vs[i]? = some v→∀ k,v.ownBlock=some k→w'.heap[k]? = w.heap[k]?):G2 tv n0 w' vs sc :=
 ⟨h.len,fun i v l hv hl=>P6 (h.row i v l hv hl) (hs i v hv),h.dis⟩
theorem G2.lt(h:G2 tv n0 w vs sc){i:Nat}{v:Bf}(hv:vs[i]? = some v):∀ k,v.ownBlock=some k→n0≤k∧k<w.heap.size:=by
 obtain ⟨l,_,hr⟩:=h.ex hv;exact hr.lt
theorem G2.A(h:G2 tv n0 w vs sc)(g:G w w'):G2 tv n0 w' vs sc:=h.ac fun i v hv k hk=>g.block (h.lt hv k hk).2
theorem G2.C(h:G2 tv n0 w vs sc){row:Option Nat}(hg:w.grownBy w' row)(hr:∀ k,row=some k→¬ LZ (fun e _=>Bu e tv) w k):G2 tv n0 w' vs sc:=h.ac fun i v hv k hk=>by
 obtain ⟨l,_,ho⟩:=h.ex hv;refine hg.block k (h.lt hv k hk).2 fun e=>hr k e.symm ?_;rcases ho.2 with ⟨h1,_⟩|⟨g,aa,ab,h1,h2,h3,_⟩;rw [h1] at hk;cases hk;rw [h1] at hk;have:g=k:=by injection hk
 subst this;exact ⟨_,_,_,h3,Nat.beq_refl _⟩
theorem G2.push(h:G2 tv n0 w vs sc):G2 tv n0 w (vs++[.slice none 0 0]) (sc++[[]]):=by
 refine ⟨by rw [Du,Du,h.len];rfl,fun i v l hv hl=>?_,fun i j v u hv hu aa=>?_⟩;rcases Nat.lt_trichotomy i vs.length with q|q|q;rw [Ha q] at hv;rw [Ha (by rw [← h.len];exact q)] at hl;exact h.row i v l hv hl;subst q;rw [Hp (AA _),Ht] at hv;rw [h.len,Hp (AA _),Ht] at hl;injection hv with hv;injection hl with hl;subst hv hl;exact J5 _ _ _ _;rw [Kn (by rw [Du];show vs.length+1≤i;omega)] at hv;cases hv
 have one:∀ (i:Nat) (v:Bf),(vs++[AJ none 0 0])[i]? = some v→v = .slice none 0 0∨(i<vs.length∧vs[i]? = some v):=fun i v hv=>by
  rcases Nat.lt_trichotomy i vs.length with q|q|q;rw [Ha q] at hv;exact .inr ⟨q,hv⟩;subst q;rw [Hp (AA _),Ht] at hv;injection hv with hv;exact .inl hv.symm;rw [Kn (by rw [Du];show vs.length+1≤i;omega)] at hv;cases hv
 rcases one i v hv with q|⟨_,q⟩;subst q;exact .inl rfl;rcases one j u hu with q'|⟨_,q'⟩;subst q'
 cases hb:v.ownBlock with
 | none=>exact .inl rfl
 | some k=>exact .inr (fun e=>by cases e)
 exact h.dis i j v u q q' aa
theorem G2.bm(h:G2 tv n0 w vs sc)(n:Nat):G2 tv n0 w (vs.take n) (sc.take n):=by
 have t:∀ {α:Type} (l:List α) (i:Nat) (a:α),(l.take n)[i]? = some a→l[i]? = some a:=fun l i a hl=>by
  rw [Lo] at hl;split at hl;exact hl;cases hl
 exact ⟨by rw [DQ,DQ,h.len],fun i v l hv hl=>h.row i v l (t _ _ _ hv) (t _ _ _ hl),fun i j v u hv hu aa=>h.dis i j v u (t _ _ _ hv) (t _ _ _ hu) aa⟩
theorem G2.set(h:G2 tv n0 w vs sc){i:Nat}{v v':Bf}{l':List Dz}(hv:vs[i]? = some v)(hg:w.grownBy w' v.ownBlock)(ho:w'.ownsRow n0 tv 5 v' l'.length (l'.flatMap Nv))
 (ab:∀ k,v'.ownBlock=some k→v.ownBlock=some k∨w.heap.size≤k):G2 tv n0 w' (vs.set i v') (sc.set i l'):=by
 have hi:i<vs.length:=(KJ.1 hv).1
 have ot:∀ (j:Nat) (u:Bf),j≠i→vs[j]? = some u→v'.ownBlock=none∨v'.ownBlock≠u.ownBlock:=fun j u hj hu=>by
  cases hb:v'.ownBlock with
  | none=>exact .inl rfl
  | some k =>
   refine .inr fun e=>?_;rcases ab k hb with q|q;rcases h.dis i j v u hv hu (Ne.symm hj) with z|z;rw [z] at q;cases q;exact z (q.trans e);have:=(h.lt hu k e.symm).2;omega
 refine ⟨by rw [E8,E8,h.len],fun j u l hu hl=>?_,fun j k u z hu hz aa=>?_⟩;by_cases hj:i=j;subst hj;rw [E6 hi] at hu;rw [E6 (by rw [← h.len];exact hi)] at hl;injection hu with hu;injection hl with hl;subst hu hl;exact ho;rw [FI hj] at hu hl;refine P6 (h.row j u l hu hl) fun k hk=>hg.block k (h.lt hu k hk).2 fun e=>?_;rcases h.dis j i u v hu hv (Ne.symm hj) with q|q;rw [q] at hk;cases hk;exact q (hk.trans e);by_cases hj:i=j;subst hj;rw [E6 hi] at hu;rw [FI aa] at hz;injection hu with hu;subst hu;exact ot k z (Ne.symm aa) hz;rw [FI hj] at hu;by_cases hk:i=k;subst hk;rw [E6 hi] at hz;injection hz with hz;subst hz;rcases ot j u (Ne.symm hj) hu with q|q
 cases hb:u.ownBlock with
 | none=>exact .inl rfl
 | some b=>exact .inr (fun e=>by rw [q] at e;cases e)
 exact .inr (Ne.symm q);rw [FI hk] at hz;exact h.dis j k u z hu hz aa
end
set_option maxHeartbeats 1000000
def FA(F t:Nd)(i:Nat):FQ:=Af F (Aa t i)
def Ic(a:Nd):Bool:=((Ac (a.k=27) && !Ac (a.ref=3)) || Ac (a.k=28)) || Ac (a.k=29)
theorem kX{F t:Nd}(K:∀ i,i<t.j.length→KP F (Aa t i))(am:t.k=12)(hx:D2 t=true):Dv F 119 t (Lf t (FA F t)):=by
 intro n0 b S w v N h ac hb a1;obtain ⟨hl,he,an⟩:=TF am hx;obtain ⟨p,c,rfl,_⟩:=id ac;have a3:=h.lt;have az:=OG hl;have Q0:=K 0 O;have Q1:=K 1 O;have ai:=((((EG F (Aa t 0)).ex S).I (Ic ((Af F (Aa t 0)).ex S).1) (Aa t 0).z 7)).bd _ hb;have g:=AP.refl DU n0 w;refine Cu 68 [0,1] Tryz.func119 ?_;refine CT fun b3 _ ga _ g E=>?_;have h:=Ar h;have ac:=Ar ac;refine A5 fun b4 _ ga _ g E=>?_;have h:=Ar h;have ac:=Ar ac;refine Ad ?_;refine AO (Is t _ _ _) ?_;rintro _ _ ⟨rfl,ga⟩;refine A4 fun g E=>?_;have h:=AV h;have ac:=AV ac;refine A5 fun b5 _ ga _ g E=>?_;have h:=Ar h;have ac:=Ar ac;refine AX fun _ ga Ca g E h=>?_;have ac:=Co ac;obtain ⟨hpe,ax,aw,hcell,ae⟩:=Ba ac (i:=0) O;refine Ad ?_;refine AO (Dv.to (Q0.ex he) [b3,b4,b5] h ae hb O (E.Q Br) g.size) ?_;rintro _ _ ⟨⟨a2,ay,rfl,ah,aa⟩,h,ga⟩;refine A4 fun g E=>?_;have ac:=F2 ac;refine A5 fun b6 _ ga _ g E=>?_;have aa:=Bq aa;have h:=Ar h;have ac:=Ar ac;refine AX fun _ ga Ca g E h=>?_;have ac:=Co ac;have aa:=AK aa;refine Aw (fun h1=>?_) fun h1=>?_
 have hq:Ic ((Af F (Aa t 0)).ex S).1=false:=by
  unfold Ic;revert h1;cases Ac (((Af F (Aa t 0)).ex S).1.k=27) <;> cases Ac (((Af F (Aa t 0)).ex S).1.ref=3) <;> cases Ac (((Af F (Aa t 0)).ex S).1.k=28) <;> cases Ac (((Af F (Aa t 0)).ex S).1.k=29) <;> decide
 obtain ⟨hpe,av,au,hcell,ae⟩:=Ba ac (i:=0) O;refine Ad ?_;refine AO (F4 (Aa t 0).z 7 h) ?_;rintro _ _ ⟨rfl,h,ga⟩;refine A4 fun g E=>?_;have ac:=F2 ac;have aa:=DP aa;have hT:DV (Aa t 0).z 7 ((Af F (Aa t 0)).ex S).2=(AG (Ic ((Af F (Aa t 0)).ex S).1) (Aa t 0).z 7 ((Af F (Aa t 0)).ex S).2):=by rw [hq];rfl
 rw [hT] at h;obtain ⟨hpe,ao,ak,hcell,ae⟩:=Ba ac (i:=1) O;refine Ad ?_;refine AO (Dv.to (Q1.ex an) [b3,b4,b5,b6] h ae ai O (E.Q Br) g.size) ?_;rintro _ _ ⟨⟨ap,aq,rfl,ag,ab⟩,h,ga⟩;refine A4 fun g E=>?_;have ac:=F2 ac;have aa:=DP aa;refine A5 fun _ _ ga l8 g E=>?_;have aa:=Bq aa;have ab:=Bq ab;have h:=Ar h;have ac:=Ar ac;refine AX fun _ ga Ca g E h=>?_;have ac:=Co ac;have aa:=AK aa;have ab:=AK ab;refine Ad ?_;refine DI (O1 _ _ _) (fun ar ad=>?_);have g:=BZ g ad;replace E:=E.A ad;have h:=h.A (ad);have ac:=ac.A (ad);have aa:=aa.A (ad);have ab:=ab.A (ad);refine Aw (fun h2=>?_) fun h2=>?_;have hr:EE ((Af F (Aa t 0)).ex S).1.ty ((Af F (Aa t 1)).ex (AG (Ic ((Af F (Aa t 0)).ex S).1) (Aa t 0).z 7 ((Af F (Aa t 0)).ex S).2)).1.ty=false:=by simpa using h2
 obtain ⟨hpe,aj,al,hcell,ae⟩:=Ba ac (i:=1) O;refine Ad ?_;refine AO (F4 (Aa t 1).z 7 h) ?_;rintro _ _ ⟨rfl,h,ga⟩;refine A4 fun g E=>?_;have aa:=DP aa;have ab:=DP ab;refine Ck fun _ _ ga af g E=>?_;have aa:=Bq aa;have ab:=Bq ab;have h:=Ar h;refine AX fun _ ga Ca g E h=>?_;have aa:=AK aa;have ab:=AK ab;refine AX fun _ ga Ca g E h=>?_;have aa:=AK aa;have ab:=AK ab;refine AN ?_;have e:Lf t (FA F t) S=(AF t [((Af F (Aa t 0)).ex S).1,((Af F (Aa t 1)).ex (AG (Ic ((Af F (Aa t 0)).ex S).1) (Aa t 0).z 7 ((Af F (Aa t 0)).ex S).2)).1] Az,AG (EE ((Af F (Aa t 0)).ex S).1.ty ((Af F (Aa t 1)).ex (AG (Ic ((Af F (Aa t 0)).ex S).1) (Aa t 0).z 7 ((Af F (Aa t 0)).ex S).2)).1.ty) (Aa t 1).z 7 ((Af F (Aa t 1)).ex (AG (Ic ((Af F (Aa t 0)).ex S).1) (Aa t 0).z 7 ((Af F (Aa t 0)).ex S).2)).2):=rfl;rw [e,hr];exact ⟨BO (t:=AF t [_,_] Az) rfl (Ec (ks:=[_,_]) ⟨af,DK E.J⟩ E.J.row (Gw (aa.W ah) (DG (ab.W ag))) (AA _)),h,g⟩;have hr:EE ((Af F (Aa t 0)).ex S).1.ty ((Af F (Aa t 1)).ex (AG (Ic ((Af F (Aa t 0)).ex S).1) (Aa t 0).z 7 ((Af F (Aa t 0)).ex S).2)).1.ty=true:=by simpa using h2
 refine Ck fun _ _ ga af g E=>?_;have aa:=Bq aa;have ab:=Bq ab;have h:=Ar h;refine AX fun _ ga Ca g E h=>?_;have aa:=AK aa;have ab:=AK ab;refine AX fun _ ga Ca g E h=>?_;have aa:=AK aa;have ab:=AK ab;refine AN ?_;have e:Lf t (FA F t) S=(AF t [((Af F (Aa t 0)).ex S).1,((Af F (Aa t 1)).ex (AG (Ic ((Af F (Aa t 0)).ex S).1) (Aa t 0).z 7 ((Af F (Aa t 0)).ex S).2)).1] Az,AG (EE ((Af F (Aa t 0)).ex S).1.ty ((Af F (Aa t 1)).ex (AG (Ic ((Af F (Aa t 0)).ex S).1) (Aa t 0).z 7 ((Af F (Aa t 0)).ex S).2)).1.ty) (Aa t 1).z 7 ((Af F (Aa t 1)).ex (AG (Ic ((Af F (Aa t 0)).ex S).1) (Aa t 0).z 7 ((Af F (Aa t 0)).ex S).2)).2):=rfl;rw [e,hr];exact ⟨BO (t:=AF t [_,_] Az) rfl (Ec (ks:=[_,_]) ⟨af,DK E.J⟩ E.J.row (Gw (aa.W ah) (DG (ab.W ag))) (AA _)),h,g⟩
 have hq:Ic ((Af F (Aa t 0)).ex S).1=true:=by
  unfold Ic;revert h1;cases Ac (((Af F (Aa t 0)).ex S).1.k=27) <;> cases Ac (((Af F (Aa t 0)).ex S).1.ref=3) <;> cases Ac (((Af F (Aa t 0)).ex S).1.k=28) <;> cases Ac (((Af F (Aa t 0)).ex S).1.k=29) <;> decide
 have hT:((Af F (Aa t 0)).ex S).2=(AG (Ic ((Af F (Aa t 0)).ex S).1) (Aa t 0).z 7 ((Af F (Aa t 0)).ex S).2):=by rw [hq];rfl
 rw [hT] at h;obtain ⟨hpe,ao,ak,hcell,ae⟩:=Ba ac (i:=1) O;refine Ad ?_;refine AO (Dv.to (Q1.ex an) [b3,b4,b5,b6] h ae ai O (E.Q Br) g.size) ?_;rintro _ _ ⟨⟨ap,aq,rfl,ag,ab⟩,h,ga⟩;refine A4 fun g E=>?_;have ac:=F2 ac;have aa:=DP aa;refine A5 fun _ _ ga _ g E=>?_;have aa:=Bq aa;have ab:=Bq ab;have h:=Ar h;have ac:=Ar ac;refine AX fun _ ga Ca g E h=>?_;have ac:=Co ac;have aa:=AK aa;have ab:=AK ab;refine Ad ?_;refine DI (O1 _ _ _) (fun ar ad=>?_);have g:=BZ g ad;replace E:=E.A ad;have h:=h.A (ad);have ac:=ac.A (ad);have aa:=aa.A (ad);have ab:=ab.A (ad);refine Aw (fun h3=>?_) fun h3=>?_;have hr:EE ((Af F (Aa t 0)).ex S).1.ty ((Af F (Aa t 1)).ex (AG (Ic ((Af F (Aa t 0)).ex S).1) (Aa t 0).z 7 ((Af F (Aa t 0)).ex S).2)).1.ty=false:=by simpa using h3
 obtain ⟨hpe,aj,al,hcell,ae⟩:=Ba ac (i:=1) O;refine Ad ?_;refine AO (F4 (Aa t 1).z 7 h) ?_;rintro _ _ ⟨rfl,h,ga⟩;refine A4 fun g E=>?_;have aa:=DP aa;have ab:=DP ab;refine Ck fun _ _ ga af g E=>?_;have aa:=Bq aa;have ab:=Bq ab;have h:=Ar h;refine AX fun _ ga Ca g E h=>?_;have aa:=AK aa;have ab:=AK ab;refine AX fun _ ga Ca g E h=>?_;have aa:=AK aa;have ab:=AK ab;refine AN ?_;have e:Lf t (FA F t) S=(AF t [((Af F (Aa t 0)).ex S).1,((Af F (Aa t 1)).ex (AG (Ic ((Af F (Aa t 0)).ex S).1) (Aa t 0).z 7 ((Af F (Aa t 0)).ex S).2)).1] Az,AG (EE ((Af F (Aa t 0)).ex S).1.ty ((Af F (Aa t 1)).ex (AG (Ic ((Af F (Aa t 0)).ex S).1) (Aa t 0).z 7 ((Af F (Aa t 0)).ex S).2)).1.ty) (Aa t 1).z 7 ((Af F (Aa t 1)).ex (AG (Ic ((Af F (Aa t 0)).ex S).1) (Aa t 0).z 7 ((Af F (Aa t 0)).ex S).2)).2):=rfl;rw [e,hr];exact ⟨BO (t:=AF t [_,_] Az) rfl (Ec (ks:=[_,_]) ⟨af,DK E.J⟩ E.J.row (Gw (aa.W ah) (DG (ab.W ag))) (AA _)),h,g⟩;have hr:EE ((Af F (Aa t 0)).ex S).1.ty ((Af F (Aa t 1)).ex (AG (Ic ((Af F (Aa t 0)).ex S).1) (Aa t 0).z 7 ((Af F (Aa t 0)).ex S).2)).1.ty=true:=by simpa using h3
 refine Ck fun _ _ ga af g E=>?_;have aa:=Bq aa;have ab:=Bq ab;have h:=Ar h;refine AX fun _ ga Ca g E h=>?_;have aa:=AK aa;have ab:=AK ab;refine AX fun _ ga Ca g E h=>?_;have aa:=AK aa;have ab:=AK ab;refine AN ?_;have e:Lf t (FA F t) S=(AF t [((Af F (Aa t 0)).ex S).1,((Af F (Aa t 1)).ex (AG (Ic ((Af F (Aa t 0)).ex S).1) (Aa t 0).z 7 ((Af F (Aa t 0)).ex S).2)).1] Az,AG (EE ((Af F (Aa t 0)).ex S).1.ty ((Af F (Aa t 1)).ex (AG (Ic ((Af F (Aa t 0)).ex S).1) (Aa t 0).z 7 ((Af F (Aa t 0)).ex S).2)).1.ty) (Aa t 1).z 7 ((Af F (Aa t 1)).ex (AG (Ic ((Af F (Aa t 0)).ex S).1) (Aa t 0).z 7 ((Af F (Aa t 0)).ex S).2)).2):=rfl;rw [e,hr];exact ⟨BO (t:=AF t [_,_] Az) rfl (Ec (ks:=[_,_]) ⟨af,DK E.J⟩ E.J.row (Gw (aa.W ah) (DG (ab.W ag))) (AA _)),h,g⟩
theorem aA{t:Nd}(hx:BN t=true)(h:t.k≠24∧t.k≠25∧t.k≠26∧t.k≠27∧t.k≠34∧t.k≠28∧t.k≠30∧t.k≠38):1≤t.j.length∧BN (Aa t 0)=true:=by
 rcases mN hx with k|k|k|k|k|k|k|k|k|k|k|k|k|k|k;exact absurd k h.1;exact absurd k h.2.1;exact absurd k h.2.2.1;exact absurd k h.2.2.2.1;exact absurd k h.2.2.2.2.1;exact absurd k h.2.2.2.2.2.1;obtain ⟨q,r,_⟩:=Rl k hx;exact ⟨O,r⟩;exact absurd k h.2.2.2.2.2.2.1;obtain ⟨_,q,r⟩:=VQ k hx;exact ⟨O,r⟩;obtain ⟨q,r⟩:=XC k hx;exact ⟨O,r⟩;obtain ⟨_,q,r,_⟩:=SN k hx;exact ⟨O,r⟩;obtain ⟨q,r⟩:=XD k hx;exact ⟨O,r⟩;obtain ⟨q,r⟩:=VH k hx;exact ⟨O,r⟩;obtain ⟨q,r⟩:=Wo k hx;exact ⟨O,r⟩;exact absurd k h.2.2.2.2.2.2.2
theorem mR{F t:Nd}(K:∀ i,i<t.j.length→KP F (Aa t i))(hx:BN t=true)(hk:t.k≠24∧t.k≠25∧t.k≠26∧t.k≠27∧t.k≠34∧t.k≠28∧t.k≠30∧t.k≠38):Dv F 149 t (Fu t (FA F t)):=by
 intro n0 b S w v N h ac hb bv;obtain ⟨hl,he⟩:=aA hx hk;obtain ⟨p,c,rfl,_⟩:=id ac;have cd:=h.lt;have aw:=KG (t:=t) (i:=0) O;rw [← Em (show 0<t.j.length by omega)] at aw;have Q0:=K 0 O;have ao:=((EG F (Aa t 0)).ex S).bd _ hb;have g:=AP.refl DU n0 w;refine Cu 151 [0,1] Tryz.func149 ?_;refine CT fun b3 _ ga _ g E=>?_;have h:=Ar h;have ac:=Ar ac;refine A5 fun b4 _ ga _ g E=>?_;have h:=Ar h;have ac:=Ar ac;refine Ad ?_;refine AO (Is t _ _ _) ?_;rintro _ _ ⟨rfl,ga⟩;refine A4 fun g E=>?_;have h:=AV h;have ac:=AV ac;refine A5 fun b5 _ ga _ g E=>?_;have h:=Ar h;have ac:=Ar ac;refine AX fun _ ga Ca g E h=>?_;have ac:=Co ac;obtain ⟨hpe,bo,bm,hcell,ad⟩:=Ba ac (i:=0) O;refine Ad ?_;refine AO (Dv.to (Q0.ex he) [b3,b4,b5] h ad hb O (E.Q Br) g.size) ?_;rintro _ _ ⟨⟨bw,br,rfl,ai,aa⟩,h,ga⟩;refine A4 fun g E=>?_;have ac:=F2 ac;refine A5 fun b6 _ ga _ g E=>?_;have aa:=Bq aa;have h:=Ar h;have ac:=Ar ac;refine AX fun _ ga Ca g E h=>?_;have ac:=Co ac;have aa:=AK aa;refine Ck fun ak _ ga af g E=>?_;have aa:=Bq aa;have h:=Ar h;have ac:=Ar ac;have av:=E.ne 0 1 rfl rfl rfl;have az:=E.ne 0 2 rfl rfl rfl;have bb:=E.ne 0 3 rfl rfl rfl;have ax:=E.ne 0 4 rfl rfl rfl;refine AX fun _ ga Ca g E h=>?_;have ac:=Co ac;have aa:=AK aa;refine Aw (fun h1=>?_) fun h1=>?_;have h1:t.k=29:=AH h1;obtain ⟨aq,_,ap⟩:=Rl h1 hx;have a6:=OG aq;have Q1:=K 1 O;refine Ad ?_;refine Dj [3,0,3,0,3,3,0,2] ?_
 refine Da fun g E h=>?_;have ac:=ac.A (G.drew _);have aa:=aa.A (G.drew _);obtain ⟨hpe,bg,bi,hcell,ad⟩:=Ba ac (i:=0) O;refine Ad ?_;refine AO (LQ ((Af F (Aa t 0)).ex S).1 _ _ 5 (Aa t 0).z h) ?_;rintro _ _ ⟨rfl,h,ga⟩;refine A4 fun g E=>?_;have ac:=F2 ac;have aa:=DP aa;obtain ⟨hpe,bp,bj,hcell,ad⟩:=Ba ac (i:=1) O;refine Ad ?_;refine AO (Dv.to (Q1.ex ap) [b3,b4,b5,b6,ak] h ad ((SJ _ _ _ _).bd _ ao) O (E.Q Br) g.size) ?_;rintro _ _ ⟨⟨b0,bt,rfl,a2,ae⟩,h,ga⟩;refine A4 fun g E=>?_;have ac:=F2 ac;have aa:=DP aa;refine A5 fun b7 _ ga _ g E=>?_;have aa:=Bq aa;have ae:=Bq ae;have h:=Ar h;have ac:=Ar ac;have a4:=E.ne 0 1 rfl rfl rfl;refine AX fun _ ga Ca g E h=>?_;have ac:=Co ac;have aa:=AK aa;have ae:=AK ae;refine Ad ?_;refine Dj [3,0,3,0,3,3,0,2] ?_;refine Da fun g E h=>?_;have ac:=ac.A (G.drew _);have aa:=aa.A (G.drew _);have ae:=ae.A (G.drew _);obtain ⟨hpe,bn,be,hcell,ad⟩:=Ba ac (i:=1) O;refine Ad ?_;refine AO (LQ ((Af F (Aa t 1)).ex (DA ((Af F (Aa t 0)).ex S).1 5 (Aa t 0).z ((Af F (Aa t 0)).ex S).2)).1 _ _ 1 (Aa t 1).z h) ?_;rintro _ _ ⟨rfl,h,ga⟩;refine A4 fun g E=>?_;have aa:=DP aa;have ae:=DP ae;refine Ad ?_
 have ab:Dp [b3,b4,b5,b6,b7] w.heap.size _ [((Af F (Aa t 0)).ex S).1] (.slice (some ⟨ak,0,none⟩) 1 1):=MM E.U af (aa.mono fun k hk _=>⟨⟨⟨by have:=hk.1.1;omega,by have:=hk.1.2;simp at this ⊢;omega⟩,hk.2⟩,by have:=hk.1.2;simp at this;omega⟩) ⟨⟨af,by simp;omega⟩,DK E.U⟩;refine Ck fun _ _ ga _ g E=>?_;have ae:=Bq ae;have h:=Ar h;have ab:=Ar ab;have au:=E.ne 0 2 rfl rfl rfl;have hOo:=ab;refine Hx J AC Cp J (Ab J) ab (Ab J) J E.J.row (Fl ae a2 DZ (fun j hj=>by obtain rfl:ak=j:=(by injection hj);simp)) BR Dn ⟨by have:=g.size;omega,by have q3:=E.g6.lt;have q4:=E.g5.lt;have q5:=E.g4.lt;have q6:=E.g3.lt;have q7:=E.U.lt;simp;omega⟩ ?_;intro bq b1 bu ab al;replace E:=E.sel [false,true,false,true,true,true,true];replace E:=E.ab al hOo.ne Br;have g:=EQ g al Fo;have h:=h.aa al hOo O;refine AX fun _ ga Ca g E h=>?_;have ab:=DO ab;refine AX fun _ ga Ca g E h=>?_;have ab:=DO ab;refine AX fun _ ga Ca g E h=>?_;have ab:=DO ab;refine AN ?_;have e:Fu t (FA F t) S=(AF t [((Af F (Aa t 0)).ex S).1,((Af F (Aa t 1)).ex (DA ((Af F (Aa t 0)).ex S).1 5 (Aa t 0).z ((Af F (Aa t 0)).ex S).2)).1] tInt,DA ((Af F (Aa t 1)).ex (DA ((Af F (Aa t 0)).ex S).1 5 (Aa t 0).z ((Af F (Aa t 0)).ex S).2)).1 1 (Aa t 1).z ((Af F (Aa t 1)).ex (DA ((Af F (Aa t 0)).ex S).1 5 (Aa t 0).z ((Af F (Aa t 0)).ex S).2)).2):=by unfold Fu;dsimp only;rw [BU h1];rfl
 rw [e];exact ⟨BO (t:=AF t [_,_] tInt) rfl ab.kd,h,g⟩;have h1:t.k≠29:=CF h1;refine Aw (fun h2=>?_) fun h2=>?_;have h2:t.k=31:=AH h2;refine AX fun _ ga Ca g E h=>?_;have aa:=AK aa;refine Aw (fun h3=>?_) fun h3=>?_;(try simp only [BH] at h3);refine AX fun _ ga Ca g E h=>?_;have aa:=AK aa;refine Ad ?_;refine AO (LQ ((Af F (Aa t 0)).ex S).1 _ _ _ t.z h) ?_;rintro _ _ ⟨rfl,h,ga⟩;refine A4 fun g E=>?_;have aa:=DP aa;refine AX fun _ ga Ca g E h=>?_;have aa:=AK aa;refine AN ?_;have e:Fu t (FA F t) S=(AF t [((Af F (Aa t 0)).ex S).1] tBool,DA ((Af F (Aa t 0)).ex S).1 2 t.z ((Af F (Aa t 0)).ex S).2):=by unfold Fu;dsimp only;rw [Aq h1,BU h2];unfold KV;rw [h3];rfl
 rw [e];exact ⟨BO (t:=AF t [_] _) rfl (Ec (ks:=[_]) ⟨af,DK E.J⟩ E.J.row (DG (aa.W ai)) (AA _)),h,g⟩;refine Ad ?_;refine AO (LQ ((Af F (Aa t 0)).ex S).1 _ _ _ t.z h) ?_;rintro _ _ ⟨rfl,h,ga⟩;refine A4 fun g E=>?_;have aa:=DP aa;refine AX fun _ ga Ca g E h=>?_;have aa:=AK aa;refine AN ?_;have e:Fu t (FA F t) S=(AF t [((Af F (Aa t 0)).ex S).1] tInt,DA ((Af F (Aa t 0)).ex S).1 1 t.z ((Af F (Aa t 0)).ex S).2):=by unfold Fu;dsimp only;rw [Aq h1,BU h2];unfold KV;rw [h3];rfl
 rw [e];exact ⟨BO (t:=AF t [_] _) rfl (Ec (ks:=[_]) ⟨af,DK E.J⟩ E.J.row (DG (aa.W ai)) (AA _)),h,g⟩;have h2:t.k≠31:=CF h2;refine Aw (fun h4=>?_) fun h4=>?_;have h4:t.k=32:=AH h4;obtain ⟨_,aq,_,ap⟩:=SN h4 hx;have a6:=OG aq;have Q1:=K 1 O;obtain ⟨hpe,bc,bk,hcell,ad⟩:=Ba ac (i:=1) O;refine Ad ?_;refine AO (Dv.to (Q1.ex ap) [b3,b4,b5,b6,ak] h ad ao O (E.Q Br) g.size) ?_;rintro _ _ ⟨⟨bz,b9,rfl,a8,aj⟩,h,ga⟩;refine A4 fun g E=>?_;have aa:=DP aa;refine A5 fun b8 _ ga _ g E=>?_;have aa:=Bq aa;have aj:=Bq aj;have h:=Ar h;have a1:=E.ne 0 1 rfl rfl rfl;refine AX fun _ ga Ca g E h=>?_;have aa:=AK aa;have aj:=AK aj;refine Ad ?_;have ab:Dp [b3,b4,b5,b6,b8] w.heap.size _ [((Af F (Aa t 0)).ex S).1] (.slice (some ⟨ak,0,none⟩) 1 1):=MM E.U af (aa.mono fun k hk _=>⟨⟨⟨by have:=hk.1.1;omega,by have:=hk.1.2;simp at this ⊢;omega⟩,hk.2⟩,by have:=hk.1.2;simp at this;omega⟩) ⟨⟨af,by simp;omega⟩,DK E.U⟩;refine Ck fun _ _ ga _ g E=>?_;have aj:=Bq aj;have h:=Ar h;have ab:=Ar ab;have ar:=E.ne 0 2 rfl rfl rfl;have hOo:=ab;refine Hx J AC Cp J (Ab J) ab (Ab J) J E.J.row (Fl aj a8 DZ (fun j hj=>by obtain rfl:ak=j:=(by injection hj);simp)) BR Dn ⟨by have:=g.size;omega,by have q3:=E.g6.lt;have q4:=E.g5.lt;have q5:=E.g4.lt;have q6:=E.g3.lt;have q8:=E.U.lt;simp;omega⟩ ?_;intro bs ce cb ab am;replace E:=E.sel [false,true,false,true,true,true,true];replace E:=E.ab am hOo.ne Br
 have g:=EQ g am Fo;have h:=h.aa am hOo O;refine AX fun _ ga Ca g E h=>?_;have ab:=DO ab;refine Ad ?_;refine DI (qH _ _ _ _) (fun b2 an=>?_);have g:=BZ g an;replace E:=E.A an;have h:=h.A (an);have ab:=ab.A (an);refine A5 fun _ _ ga _ g E=>?_;have h:=Ar h;have ab:=Ar ab;refine AX fun _ ga Ca g E h=>?_;have ab:=DO ab;refine Aw (fun h5=>?_) fun h5=>?_;(try simp only [BH] at h5);refine Ad ?_;refine AO (F4 t.z 7 h) ?_;rintro _ _ ⟨rfl,h,ga⟩;refine A4 fun g E=>?_;have ab:=ab.gt ga rfl;refine Ad ?_;refine Df J ET (Ab J) (Ab J) J J E.g3 J J ?_;intro bh ah _ BS;have C5:=E.g3;replace E:=E.s3 ah BS;have g:=Cw g ah O;have h:=h.C ah C5 rfl O;first|have ab:=ab.af ah C5 rfl|have ab:=ab.C ah BR
 refine AX fun _ ga Ca g E h=>?_;have ab:=DO ab;refine AN ?_;have e:Fu t (FA F t) S=(AF t [((Af F (Aa t 0)).ex S).1,((Af F (Aa t 1)).ex ((Af F (Aa t 0)).ex S).2).1] (Gp t.o ((Af F (Aa t 0)).ex S).1.ty ((Af F (Aa t 1)).ex ((Af F (Aa t 0)).ex S).2).1.ty).1,AG (Gp t.o ((Af F (Aa t 0)).ex S).1.ty ((Af F (Aa t 1)).ex ((Af F (Aa t 0)).ex S).2).1.ty).2 t.z 7 ((Af F (Aa t 1)).ex ((Af F (Aa t 0)).ex S).2).2):=by unfold Fu;dsimp only;rw [Aq h1,Aq h2,BU h4];rfl
 rw [e];have hr:(Gp t.o ((Af F (Aa t 0)).ex S).1.ty ((Af F (Aa t 1)).ex ((Af F (Aa t 0)).ex S).2).1.ty).2=false:=by simpa using h5
 rw [hr];exact ⟨BO (t:=AF t [_,_] _) rfl ab.kd,h,g⟩;refine Ad ?_;refine Df J ET (Ab J) (Ab J) J J E.g3 J J ?_;intro bf ag _ BS;have C5:=E.g3;replace E:=E.s3 ag BS;have g:=Cw g ag O;have h:=h.C ag C5 rfl O;first|have ab:=ab.af ag C5 rfl|have ab:=ab.C ag BR
 refine AX fun _ ga Ca g E h=>?_;have ab:=DO ab;refine AN ?_;have e:Fu t (FA F t) S=(AF t [((Af F (Aa t 0)).ex S).1,((Af F (Aa t 1)).ex ((Af F (Aa t 0)).ex S).2).1] (Gp t.o ((Af F (Aa t 0)).ex S).1.ty ((Af F (Aa t 1)).ex ((Af F (Aa t 0)).ex S).2).1.ty).1,AG (Gp t.o ((Af F (Aa t 0)).ex S).1.ty ((Af F (Aa t 1)).ex ((Af F (Aa t 0)).ex S).2).1.ty).2 t.z 7 ((Af F (Aa t 1)).ex ((Af F (Aa t 0)).ex S).2).2):=by unfold Fu;dsimp only;rw [Aq h1,Aq h2,BU h4];rfl
 rw [e];have hr:(Gp t.o ((Af F (Aa t 0)).ex S).1.ty ((Af F (Aa t 1)).ex ((Af F (Aa t 0)).ex S).2).1.ty).2=true:=by simpa using h5
 rw [hr];exact ⟨BO (t:=AF t [_,_] _) rfl ab.kd,h,g⟩;have h4:t.k≠32:=CF h4;refine Aw (fun h6=>?_) fun h6=>?_;(try simp only [BH] at h6);refine Ad ?_;refine AO (LQ ((Af F (Aa t 0)).ex S).1 _ _ 6 t.z h) ?_;rintro _ _ ⟨rfl,h,ga⟩;refine A4 fun g E=>?_;have aa:=DP aa;refine AX fun _ ga Ca g E h=>?_;have aa:=AK aa;refine AX fun _ ga Ca g E h=>?_;have aa:=AK aa;refine AN ?_;have e:Fu t (FA F t) S=(AF t [((Af F (Aa t 0)).ex S).1] tInt,DA ((Af F (Aa t 0)).ex S).1 6 t.z ((Af F (Aa t 0)).ex S).2):=by unfold Fu;dsimp only;rw [Aq h1,Aq h2,Aq h4,h6];rfl
 rw [e];exact ⟨BO (t:=AF t [_] _) rfl (Ec (ks:=[_]) ⟨af,DK E.J⟩ E.J.row (DG (aa.W ai)) (AA _)),h,g⟩;refine Aw (fun h7=>?_) fun h7=>?_;(try simp only [BH] at h7);refine Ad ?_;refine Dj [3,0,3,0,3,3,0,2] ?_;refine Da fun g E h=>?_;have ac:=ac.A (G.drew _);have aa:=aa.A (G.drew _);obtain ⟨hpe,a9,a3,hcell,ad⟩:=Ba ac (i:=0) O;refine Ad ?_;refine AO (LQ ((Af F (Aa t 0)).ex S).1 _ _ 5 (Aa t 0).z h) ?_;rintro _ _ ⟨rfl,h,ga⟩;refine A4 fun g E=>?_;have aa:=DP aa;refine AX fun _ ga Ca g E h=>?_;have aa:=AK aa;refine AX fun _ ga Ca g E h=>?_;have aa:=AK aa;refine AN ?_;have e:Fu t (FA F t) S=(AF t [((Af F (Aa t 0)).ex S).1] tInt,DA ((Af F (Aa t 0)).ex S).1 5 (Aa t 0).z ((Af F (Aa t 0)).ex S).2):=by unfold Fu;dsimp only;rw [Aq h1,Aq h2,Aq h4,h6,h7];rfl
 rw [e];exact ⟨BO (t:=AF t [_] _) rfl (Ec (ks:=[_]) ⟨af,DK E.J⟩ E.J.row (DG (aa.W ai)) (AA _)),h,g⟩;refine Aw (fun h8=>?_) fun h8=>?_;(try simp only [BH] at h8);refine Ad ?_;refine Dj [3,0,3,0,3,3,0,2] ?_;refine Da fun g E h=>?_;have ac:=ac.A (G.drew _);have aa:=aa.A (G.drew _);obtain ⟨hpe,ba,a7,hcell,ad⟩:=Ba ac (i:=0) O;refine Ad ?_;refine AO (LQ ((Af F (Aa t 0)).ex S).1 _ _ 1 (Aa t 0).z h) ?_;rintro _ _ ⟨rfl,h,ga⟩;refine A4 fun g E=>?_;have aa:=DP aa;refine AX fun _ ga Ca g E h=>?_;have aa:=AK aa;refine AX fun _ ga Ca g E h=>?_;have aa:=AK aa;refine AN ?_;have e:Fu t (FA F t) S=(AF t [((Af F (Aa t 0)).ex S).1] ⟨5,[]⟩,DA ((Af F (Aa t 0)).ex S).1 1 (Aa t 0).z ((Af F (Aa t 0)).ex S).2):=by unfold Fu;dsimp only;rw [Aq h1,Aq h2,Aq h4,h6,h7,h8];rfl
 rw [e];exact ⟨BO (t:=AF t [_] _) rfl (Ec (ks:=[_]) ⟨af,DK E.J⟩ E.J.row (DG (aa.W ai)) (AA _)),h,g⟩;refine Aw (fun h9=>?_) fun h9=>?_;(try simp only [BH] at h9);refine Ad ?_;refine Dj [3,0,3,0,3,3,0,2] ?_;refine Da fun g E h=>?_;have ac:=ac.A (G.drew _);have aa:=aa.A (G.drew _);obtain ⟨hpe,a5,ay,hcell,ad⟩:=Ba ac (i:=0) O;refine Ad ?_;refine AO (LQ ((Af F (Aa t 0)).ex S).1 _ _ 1 (Aa t 0).z h) ?_;rintro _ _ ⟨rfl,h,ga⟩;refine A4 fun g E=>?_;have aa:=DP aa;refine AX fun _ ga Ca g E h=>?_;have aa:=AK aa;refine AX fun _ ga Ca g E h=>?_;have aa:=AK aa;refine AN ?_;have e:Fu t (FA F t) S=(AF t [((Af F (Aa t 0)).ex S).1] ⟨6,[]⟩,DA ((Af F (Aa t 0)).ex S).1 1 (Aa t 0).z ((Af F (Aa t 0)).ex S).2):=by unfold Fu;dsimp only;rw [Aq h1,Aq h2,Aq h4,h6,h7,h8,h9];rfl
 rw [e];exact ⟨BO (t:=AF t [_] _) rfl (Ec (ks:=[_]) ⟨af,DK E.J⟩ E.J.row (DG (aa.W ai)) (AA _)),h,g⟩;refine AX fun _ ga Ca g E h=>?_;have aa:=AK aa;refine AN ?_;have e:Fu t (FA F t) S=(AF t [((Af F (Aa t 0)).ex S).1] Az,((Af F (Aa t 0)).ex S).2):=by unfold Fu;dsimp only;rw [Aq h1,Aq h2,Aq h4,h6,h7,h8,h9];rfl
 rw [e];exact ⟨BO (t:=AF t [_] _) rfl (Ec (ks:=[_]) ⟨af,DK E.J⟩ E.J.row (DG (aa.W ai)) (AA _)),h,g⟩
set_option maxHeartbeats 1000000
theorem uA{w w':Ae}{a:Option Addr}{m m' c:Nat}(h:w.grownBy w' (AJ a m c).ownBlock):w.grownBy w' (AJ a m' c).ownBlock:=by cases a <;> exact h
theorem UH{F t:Nd}(S:Ak):∀ i,i≤t.j.length→Gj (Av F t) S i=Gj (FA F t) S i
 | 0,_=>rfl
 | i+1,h=>by
  rw [Gj,Gj,UH S i O,Dq (show i<t.j.length by omega)];rfl
theorem V9(x:Nat→FQ)(S:Ak):∀ i,(Gj x S i).1.length=i
 | 0=>rfl
 | i+1=>by
  show ((Gj x S i).1++[_]).length=_;rw [Du,V9 x S i];rfl
theorem dW{F t:Nd}(S:Ak)(i:Nat)(h:i≤t.j.length):BW (CU t i) S (Gj (FA F t) S i).2:=by
 rw [← UH S i h];exact WX (NF F t) S i
theorem yZ{F t:Nd}(K:∀ i,i<t.j.length→KP F (Aa t i))(hx:Eh t=true):Pc 1000001 F 64 t (Af F t).M:=by
 intro n0 b S w v N h ah hb ay;have aj:=L6 hx
 have e:(Af F t).M S=(AF t (Gj (FA F t) S t.j.length).1 Az,(Gj (FA F t) S t.j.length).2):=by
  rw [GL];show (AF t (Gj (Av F t) S t.j.length).1 Az,(Gj (Av F t) S t.j.length).2)=_;rw [UH S _ (AA _)]
 rw [e];obtain ⟨p,c,rfl,_⟩:=id ah;have a3:=h.lt;have a1:=ED t;have g:=AP.refl DU n0 w;refine Cu 29 [0,1] Tryz.func64 ?_;refine CT fun b3 _ ga _ g E=>?_;have h:=Ar h;refine A5 fun b4 _ ga _ g E=>?_;have h:=Ar h;refine Ad ?_;refine AO (Is t _ _ _) ?_;rintro _ _ ⟨rfl,ga⟩;refine A4 fun g E=>?_;have h:=AV h;refine A5 fun b5 _ ga _ g E=>?_;have h:=Ar h;refine AX fun _ ga Ca g E h=>?_;refine Ad ?_;have af:=E.1;refine GR (fun (i:Nat) u1=>(i≤t.j.length∧D5 F n0 b (Gj (FA F t) S i).2 u1∧∃ s,Ax u1 b5 26 (De (DJ t) s)∧Dp [b3,b4,b5] w.heap.size u1 (Gj (FA F t) S i).1 s)∧AP DU n0 w u1) _ [(0,True,_),(3,True,_),(4,True,_),(5,True,_)] (fun (i:Nat)=>[(6,True,.int .i64 i)]) (fun (i:Nat)=>t.j.length-i) (0) ⟨⟨Cq _,h,_,E.J,Kr _ _ _⟩,g⟩ (A6 (A7 E.g2) (A6 (A7 E.U) (Di _))) Bp ?_;clear E;rintro i u1 ⟨am,ai⟩ ⟨B3,B4,_⟩;replace B3:Ax _ _ _ _:=B3;replace B4:Ax _ _ _ _:=B4;have g:=ai;obtain ⟨hi,h,s,B5,hO⟩:=am;obtain ⟨sa,sc,rfl⟩:=hO.slice;have ak:=ah.gt ai (fun k h=>h);have E:=GX (L:=[(b5,_,_),(b4,_,_),(b3,_,_)]) af ⟨B5,B4,B3,Cc⟩ rfl;refine Aw (fun h1=>?_) fun h1=>?_;have h1:i<t.j.length:=by simp only [BM] at h1;omega
 obtain ⟨e0,p1,c1,hcell,ab⟩:=Ba ak (i:=i) h1;have an:E5 p<n0:=Gi ak h1;have hq:Dv F 88 (Aa t i) (Af F (Aa t i)).st:=(K i h1).st (Hz aj h1);have al:=(dW (F:=F) S i hi).bd _ hb;have av:=IK t (i+1);have a5:=It h1;have aq:CU t (i+1)=CU t i+DT t i:=rfl;have ag:=hO.lt;have ap:=V9 (FA F t) S i;refine Ad ?_;refine Dx (Sb n0) [3,0,3,3,0,3,3,0,1,1,2,3,2] [0,1,0,0,8,0,56,120,252,508,1023,2047,4095] CG Ag [0,1,2,3,4,5,6,7,8,9,10,11,12] J ?_;refine Da fun g E h=>?_;have hO:=hO.A (G.drew _);have hcell:=hcell.A (G.drew _);have ab:=ab.A (G.drew _);refine As 0 J J (fun _=>AB AY (Ab J)) (Bb 1 J J (fun w1 hx=>AZ Bh (Ab J) (fun _=>(E.J.gt hx J).y J)) (As 2 J J (Bm J) (As 3 J J (fun _=>AB AY (Ab J)) (Bb 4 J J (fun w1 hx=>AZ Bh (Ab J) (fun _=>(E.g2.gt hx J).y J)) (As 5 J J (Bm J) (As 6 J J (fun _=>CS AC (Ab J) (Ab J) (fun _=>O) (fun _=>e0)) (Bb 7 J J (fun w1 hx=>A8 A3 (Ab J) J (fun _=>hcell.gt hx an)) (AW 8 J J ?_))))))));refine Bt (L':=[9,10,11,12]) [3,0,3,3,0,3,3,0,2,1,2,3,2] J J J ?_;refine AO (Dv.to hq [b3,b4,b5] h ab al O (E.Q Br) g.size) ?_;rintro a4 az ⟨⟨au,ax,rfl,ao,ae⟩,h,ac⟩;refine ⟨Fa,?_⟩;have g:=g.trans ac;replace E:=E.gt ac rfl;have hO:=hO.gt ac rfl;refine Bs (ac) ?_;refine AW 9 J J ?_;refine Bt (L':=[10,11,12]) [3,0,3,3,0,3,3,0,2,1,2,3,2] J J J ?_;refine Ck fun _ _ ad _ g E=>?_;have ae:=ae.new ad;have h:=h.A (ad.g);have hO:=hO.A (ad.g);refine Bs (AP.Y (ad.g)) ?_;refine AW 10 J J ?_
 refine DN (L':=[11,12]) [3,0,3,3,0,3,3,0,2,1,2,3,2] J J J J ?_;have hOo:=hO;refine Hx J AC Cp J (Ab J) hO (Ab J) J E.J.row (Fl ae ao DZ (fun j hj=>.inr (ag j hj))) (by simp;omega) Dn ⟨by have:=g.size;omega,by have q3:=E.g3.lt;have q4:=E.g2.lt;have q5:=E.U.lt;simp;omega⟩ ?_;intro aw a2 ar hO aa;replace E:=E.sel [false,true,true,true];replace E:=E.ab aa hOo.ne Br;have g:=EQ g aa Fo;have h:=h.aa aa hOo O;refine DL ?_;refine As 11 J J (fun _=>AB AY (Ab J)) (AW 12 J J ?_);refine DN (L':=[]) [3,0,3,3,0,3,3,0,2,1,2,3,2] J J J J ?_;refine AX fun _ ga Ca g E h=>?_;have hO:=AK hO;refine DL ?_;refine Dt [0,3,4,5,6] ?_;refine Ad ?_;refine Ci [6,0,3,4,5] ?_;refine Ai (fun a ha=>?_);exact ⟨i+1,ha,⟨⟨h1,h,_,E.J,hO⟩,g⟩,(A6 (A7 E.g2) (A6 (A7 E.U) (Di _))),O⟩;have h1:i=t.j.length:=by simp only [CB] at h1;omega
 subst h1;refine AX fun _ ga Ca g E h=>?_;have hO:=AK hO;refine AN ?_;exact ⟨BO (t:=AF t _ Az) rfl hO.kd,h,g⟩
theorem uV{F t:Nd}(K:∀ i,i<t.j.length→KP F (Aa t i))(ak:t.k=38)(hx:BN t=true):Dv F 145 t (Nw t (FA F t)):=by
 intro n0 b S w v N h aa hb a9;obtain ⟨hl,aw⟩:=Q3 ak hx;obtain ⟨p,c,rfl,_⟩:=id aa;have bj:=h.lt;have bq:=P7 hl;have Q0:=K 0 O;have ao:=hb.lv;have be:=hb.nl;have ap:=Vf hb;have a1:=(EG F (Aa t 0)).H (Fk S);have a2:((Af F (Aa t 0)).H (Fk S)).2.D=S.D+1:=a1.D;obtain ⟨fv,sv,sn,h⟩:=h;have g:=AP.refl DU n0 w;refine Cu 60 [0,1] Tryz.func145 ?_;refine CT fun b3 _ ga _ g E=>?_;have h:=Ar h;have aa:=Ar aa;refine A5 fun b4 _ ga _ g E=>?_;have h:=Ar h;have aa:=Ar aa;refine Ad ?_;refine AO (Is t _ _ _) ?_;rintro _ _ ⟨rfl,ga⟩;refine A4 fun g E=>?_;have h:=AV h;have aa:=AV aa;refine A5 fun b5 _ ga _ g E=>?_;have h:=Ar h;have aa:=Ar aa;refine AX fun _ ga Ca g E h=>?_;have aa:=Co aa;refine Ai (Al (Am (Au (Hg FF Ia (Bk J CH) J J (AE Fg J (Df J ET (Ab J) (Ab J) J J E.J J J ?_))))));intro br ae _ BS;have C5:=E.J;replace E:=E.s0 ae BS;have g:=Cw g ae O;have h:=h.C ae C5 rfl O;have aa:=aa.C ae Fv;refine Ai (Al (Am (Au (Ap J (C1 J (AE fR J (Ct Cf J J (h.B.row.part 13 2) (A5 fun b6 _ ga _ g E=>?_))))))));have h:=Ar h;have aa:=Ar aa;refine AX fun _ ga Ca g E h=>?_;have aa:=Co aa;refine Ad ?_;refine Df J ET (Ab J) (Ab J) J J h.B J J ?_;intro wA af bg BA;replace E:=E.ae af (h.B) rfl;have g:=JC g af h.B rfl h.hb;have aa:=aa.C af (fun k hk _ e=>by injection e with e;have:=h.hb;omega);have h:=h.set (S':={ S with E:=Az }) af BA rfl rfl;have l1:({ S with E:=Az }:Ak).D=S.D:=rfl;refine Ad ?_;refine Df J I2 (Ab J) (Ab J) J J h.B J J ?_;intro wB aj bb BB
 replace E:=E.ae aj (h.B) rfl;have g:=JC g aj h.B rfl h.hb;have aa:=aa.C aj (fun k hk _ e=>by injection e with e;have:=h.hb;omega);have h:=h.set (S':={ S with E:=Az,D:=S.D+1 }) aj BB rfl rfl;obtain ⟨an,cn,rfl,ax⟩:=IJ h.on;have l2:({ S with E:=Az,D:=S.D+1 }:Ak).D=S.D+1:=rfl;have bk:({ S with E:=Az,D:=S.D+1 }:Ak).next.length=S.next.length:=rfl;refine Ai (Al (Am (Dj [3,3,3,3,0,3,3,3,0,3,1,2,3,3,2] ?_)));refine Da fun g E h=>?_;have aa:=aa.A (G.drew _);refine Ap J (Ap J (C1 J (AE QD J (AM Ol J (h.B.y J) (Ap J (C1 J (AE R6 J (AM Cb J (h.B.y J) (AR J (fun _=>PI Jm (Ab J) (Ab J) (fun _=>O)) (Fe _ J Jm MP (Bk J CH) J J ?_))))))))));intro a7 bh ad;have bc:=Dw ad g.size;have bp:=ad.H;have g:=BZ g ad.g;replace E:=E.A ad.g;have h:=h.A (ad.g);have aa:=aa.A (ad.g);refine Ja J Jm MP J BT (Ab J) (Rj h.on (j:=S.D+1) ao) (Ab J) J ad.H.row J (by simp only [maxLen];omega) O Dn ?_;intro a8 OG aq am ab ar;have ab:World.grownBy _ aq (AJ an S.next.length cn).ownBlock:=uA ab;have g:=aD g h.on rfl ab;replace E:=E.ay h.on ab rfl;have aa:=aa.C ab (fun k hk _ e=>by have:=(QG (M:=DU) h.on rfl k e.symm).1;omega);refine Ad ?_;refine Df J Pp (Ab J) (Ab J) J J (h.a1 ab).1 J J ?_;intro wC ah ba BC;replace E:=E.ae ah ((h.a1 ab).1) rfl
 have g:=JC g ah (h.a1 ab).1 rfl h.hb;have aa:=aa.C ah (fun k hk _ e=>by injection e with e;have:=h.hb;omega)
 have ay:(Fk S).next.length=S.D+1+1:=by
  show (S.next.take (S.D+1)++[0]).length=_;rw [Du,DQ,Nat.min_eq_left ao];rfl
 have av:(Fk S).next.map (fun (k:Nat)=>Value.int .i64 (k:Int))=(S.next.map fun (k:Nat)=>Value.int .i64 (k:Int)).take ((S.D+1)*1)++[.int .i64 0]:=by
  show (S.next.take (S.D+1)++[0]).map _=_;rw [List.map_append,List.map_take,Nat.mul_one];rfl
 have h:=h.bj (S':=Fk S) ab (by rw [ay,av];exact am) ah BC rfl;obtain ⟨hpe,a4,a3,hcell,al⟩:=Ba aa (i:=0) O;refine Ad ?_;refine AO (Dv.to (Q0.H aw) [b3,b4,b5,b6] h.ah al ap O (E.Q Br) g.size) ?_;rintro _ _ ⟨⟨a5,bm,rfl,au,ac⟩,hT,ga⟩;refine A4 fun g E=>?_;obtain ⟨bo,a6,bf,h⟩:=hT;refine Ck fun _ _ ga az g E=>?_;have ac:=Bq ac;have h:=Ar h;refine AX fun _ ga Ca g E h=>?_;have ac:=ac.C ga Ch;refine Ad ?_;refine Df J I2 (Ab J) (Ab J) J J h.B J J ?_;intro wD ai bn BD;replace E:=E.ae ai (h.B) rfl;have g:=JC g ai h.B rfl h.hb;have ac:=ac.an ai h.B rfl;have eD:(((Af F (Aa t 0)).H (Fk S)).2.D:Int)-1=((((Af F (Aa t 0)).H (Fk S)).2.D-1:Nat):Int):=by omega
 rw [eD] at BD;have h:=h.set (S':={ ((Af F (Aa t 0)).H (Fk S)).2 with D:=((Af F (Aa t 0)).H (Fk S)).2.D-1 }) ai BD rfl rfl;refine Ad ?_;refine Df J ET (Ab J) (Ab J) J J h.B J J ?_;intro wE ag bi BE;replace E:=E.ae ag (h.B) rfl;have g:=JC g ag h.B rfl h.hb;have ac:=ac.an ag h.B rfl;have h:=h.set (S':={ ((Af F (Aa t 0)).H (Fk S)).2 with D:=((Af F (Aa t 0)).H (Fk S)).2.D-1,E:=S.E }) ag BE rfl rfl;refine AX fun _ ga Ca g E h=>?_;have ac:=ac.C ga Ch;refine AN ?_;exact ⟨BO (t:=AF t [_] tFunc) rfl (Ec (ks:=[_]) ⟨az,DK E.J⟩ E.J.row (DG (ac.W au)) (AA _)),h.ah,g⟩
set_option maxHeartbeats 1000000
theorem Abi{w:Ae}{l:List JI}{p:Option Addr}{c:Nat}(h:Ly KY w l (.slice p l.length c)){i:Nat}(hi:i<l.length):p=some ⟨E5 p,Gu p,none⟩∧CQ w (E5 p) (Gu p+i*3) (KY l[i]):=by
 obtain ⟨p',c',hv,hc,h⟩:=h;injection hv with AU _ e2;subst AU;obtain ⟨b,o,rfl,hR⟩:=h O;exact ⟨rfl,OQ (f:=KY) (z:=3) Yk hR hi⟩
theorem EP.bp{lo lo':Nat}{X:List Nat}{w:Ae}{ks:List Nd}{v:Bf}(h:EP lo X w ks v)(hl:lo'≤lo):EP lo' X w ks v:=Bv.mono h fun k hk _=>⟨⟨CW hl hk.1.1,hk.1.2⟩,hk.2⟩
theorem Adn(F:Nd)(name:List UInt8):(F8 F name).1.length≤count F:=by
 unfold F8
 cases h:F.j.find? (Kk name) with
 | none=>exact Cq _
 | some d =>
  dsimp only;have hm:=Ju h;have hc:=MW hm;have hk:=ED d
  cases h2:HV G5 d.j with
  | none=>exact Cq _
  | some l =>
   have:=Sc G5 _ _ h2;show l.length≤_;omega
theorem qI{L:List JI}{i:Nat}(h:i<L.length)(s:List UInt8):(L.drop i).find? (fun f=>Ac (f.name=s))=bif Ac (L[i].name=s) then some L[i] else (L.drop (i+1)).find? (fun f=>Ac (f.name=s)):=by
 rw [Jz h,List.find?_cons];cases Ac (L[i].name=s) <;> rfl
theorem fQ{F t:Nd}(K:∀ i,i<t.j.length→KP F (Aa t i))(ah:t.k=28)(hx:BN t=true):Nq F t:=by
 intro n0 b S w v N h ac hb ax;obtain ⟨_,hl,he⟩:=Og ah hx
 have e:(Af F t).N S=Er F t (FA F t) S:=by
  rw [GL];show Er F t (Av F t) S=_;unfold Er;rw [Dq (show 0<t.j.length by omega)];rfl
 rw [e];obtain ⟨p,c,rfl,_⟩:=id ac;have a1:=h.lt;have a2:=P7 hl;have Q0:=K 0 O;have g:=AP.refl DU n0 w;refine Cu 68 [0,1] Tryz.func148 ?_;refine CT fun b3 _ ga _ g E=>?_;have h:=Ar h;have ac:=Ar ac;refine A5 fun b4 _ ga _ g E=>?_;have h:=Ar h;have ac:=Ar ac;refine Ad ?_;refine AO (Is t _ _ _) ?_;rintro _ _ ⟨rfl,ga⟩;refine A4 fun g E=>?_;have h:=AV h;have ac:=AV ac;refine A5 fun b6 _ ga _ g E=>?_;have h:=Ar h;have ac:=Ar ac;refine AX fun _ ga Ca g E h=>?_;have ac:=Co ac;obtain ⟨hpe,au,ar,hcell,aj⟩:=Ba ac (i:=0) O;refine Ad ?_;refine AO (Dv.to (Q0.ex he) [b3,b4,b6] h aj hb O (E.Q Br) g.size) ?_;rintro _ _ ⟨⟨an,ak,rfl,ai,aa⟩,h,ga⟩;refine A4 fun g E=>?_;refine A5 fun b7 _ ga _ g E=>?_;have aa:=Bq aa;have h:=Ar h;refine AX fun _ ga Ca g E h=>?_;have aa:=AK aa;refine Ck fun am _ ga ag g E=>?_;have aa:=Bq aa;have h:=Ar h;refine AX fun _ ga Ca g E h=>?_;have aa:=AK aa;refine Aw (fun h1=>?_) fun h1=>?_;have hq:Ac (((Af F (Aa t 0)).ex S).1.ty.k=4)=false:=by simpa using h1
 refine Ad ?_;refine AO (F4 t.z 7 h) ?_;rintro _ _ ⟨rfl,h,ga⟩;refine A4 fun g E=>?_;have aa:=DP aa;refine AX fun _ ga Ca g E h=>?_;have aa:=AK aa;refine AN ?_;have e:Er F t (FA F t) S=((AF t [((Af F (Aa t 0)).ex S).1] Az,false),DV t.z 7 ((Af F (Aa t 0)).ex S).2):=by unfold Er;show (bif Ac (((Af F (Aa t 0)).ex S).1.ty.k=4) then _ else _)=_;rw [hq];rfl
 rw [e];exact ⟨⟨_,rfl,BO (t:=AF t [_] Az) rfl (Ec (ks:=[_]) ⟨ag,DK E.J⟩ E.J.row (DG (aa.W ai)) (AA _))⟩,h,g⟩;have hq:Ac (((Af F (Aa t 0)).ex S).1.ty.k=4)=true:=by simpa using h1
 obtain ⟨fv,sv,sn,h⟩:=h;have aa:=aa.bp ai;have ay:=Adn F ((Af F (Aa t 0)).ex S).1.ty.name;have av:=h.hF;refine CJ (Al (Am (Dj [3,3,3,0,3,3,0,1,3,3,3,3,3] ?_)));refine Da fun g E h=>?_;have aa:=aa.A (G.drew _);refine Ap J (C1 J (AE OC J (Ct A3 J J (h.B.row.part 0 9) (AE Fg J (AE VC J (AM DW J (E.U.y J) (AO (nB F ((Af F (Aa t 0)).ex S).1.ty.name fv (fun k=>k<n0) _ h.kF h.hF) ?_)))))));rintro _ aq ⟨⟨az,rfl,ad⟩,ga⟩;refine A4 fun g E=>?_;have h:=AV h;have aa:=AV aa;obtain ⟨ao,al,rfl,_,_⟩:=id ad;refine Ad ?_;refine Hi (fun (i:Nat) u1=>(i≤(F8 F ((Af F (Aa t 0)).ex S).1.ty.name).1.length∧(F8 F ((Af F (Aa t 0)).ex S).1.ty.name).1.find? (fun f=>Ac (f.name=t.o))=((F8 F ((Af F (Aa t 0)).ex S).1.ty.name).1.drop i).find? (fun f=>Ac (f.name=t.o))∧FS F n0 b ((Af F (Aa t 0)).ex S).2 fv sv sn u1∧Ly KY u1 (F8 F ((Af F (Aa t 0)).ex S).1.ty.name).1 (.slice ao (F8 F ((Af F (Aa t 0)).ex S).1.ty.name).1.length al)∧EP w.heap.size [am,b7,b3,b4,b6] u1 ((Af F (Aa t 0)).ex S).1.j (.slice an ((Af F (Aa t 0)).ex S).1.j.length ak))∧AP DU n0 aq u1) [(0,True,_),(3,True,_),(4,True,_),(6,True,_),(8,True,_)] (fun (i:Nat)=>[(10,True,.int .i64 i)]) (fun (i:Nat)=>(F8 F ((Af F (Aa t 0)).ex S).1.ty.name).1.length-i) (0) ⟨⟨Cq _,rfl,h,ad,aa⟩,AP.refl _ _ _⟩ Bp ?_;rintro i u1 ⟨ap,ab⟩;have g:=g.trans ab;replace E:=E.gt ab rfl;obtain ⟨hi,hF,h,ad,aa⟩:=ap
 refine Am (Am (Au (Ap J (Ap J (EI QF J (GG J J (Ai (Al (Cv J (fun h2=>?_) (fun h2=>?_))))))))));have h2:i<(F8 F ((Af F (Aa t 0)).ex S).1.ty.name).1.length:=by simp only [BM] at h2;omega
 have af:=Abi ad h2;rw [qI h2] at hF;refine CJ (Al (Am (DF (Am (Dj [3,3,3,3,0,3,0,3] ?_)))));have g:=NX g;have ab:=ab.trans (AP.Y (G.drew _));replace E:=E.dr;have h:=h.A (G.drew _);have ad:=ad.A (G.drew _);have aa:=aa.A (G.drew _);refine Ap J (Ap J (Dk QF J J O af.1 (AE Xd J (AM DW J ((af.2.A (G.drew _)).one (i:=0) J) (AE E2 J (AM DW J (E.g4.y J) (MD J J (Ai (Al (Cv J (fun h3=>?_) (fun h3=>?_)))))))))));rw [h3,AL] at hF;refine Am (Au (Ap J (Ap J (Dk QF J J O af.1 (AE XP J (Ct Cf J J ((af.2.A (G.drew _)).part 1 2) (AE Fg J (Df J ET (Ab J) (Ab J) J J E.g2 J J ?_))))))));intro aw ae _ BS;have C6:=E.g2;replace E:=E.s2 ae BS;have g:=Cw g ae O;first|replace ab:=Cw ab ae O|clear ab|skip
 have h:=h.C ae C6 rfl O;have aa:=aa.C ae BR;refine AS fun _ ga Ca g E=>?_;first|replace ab:=Cw ab ga O|clear ab|skip
 have h:=G3 h;have aa:=AK aa;refine AN ?_
 have e:Er F t (FA F t) S=((AF t [((Af F (Aa t 0)).ex S).1] (F8 F ((Af F (Aa t 0)).ex S).1.ty.name).1[i].ty,true),((Af F (Aa t 0)).ex S).2):=by
  unfold Er;show (bif Ac (((Af F (Aa t 0)).ex S).1.ty.k=4) then _ else _)=_;rw [hq,AL];show (match (F8 F ((Af F (Aa t 0)).ex S).1.ty.name).1.find? (fun f=>Ac (f.name=t.o)) with|some f=>_|none=>_)=_;rw [hF];rfl
 rw [e];exact ⟨⟨_,rfl,BO (t:=AF t [_] _) rfl (Ec (ks:=[_]) ⟨ag,DK E.J⟩ E.J.row (DG (aa.W (AA _))) (AA _))⟩,h.ah,g⟩;rw [h3,AQ] at hF;refine Ad ?_;refine Ci [10,0,3,4,6,8] ?_;refine Ai (fun a ha=>?_);exact ⟨i+1,ha,⟨⟨h2,hF,h,ad,aa⟩,ab⟩,O⟩;have h2:i=(F8 F ((Af F (Aa t 0)).ex S).1.ty.name).1.length:=by simp only [CB] at h2;omega
 subst h2;rw [List.drop_length] at hF;refine Ad ?_;refine AO (F4 t.z 5 h.ah) ?_;rintro _ _ ⟨rfl,h,ga⟩;refine A4 fun g E=>?_;have ab:=ab.trans ga;have aa:=DP aa;refine AS fun _ ga Ca g E=>?_;first|replace ab:=Cw ab ga O|clear ab|skip
 have h:=G3 h;have aa:=AK aa;refine AN ?_
 have e:Er F t (FA F t) S=((AF t [((Af F (Aa t 0)).ex S).1] Az,false),DV t.z 5 ((Af F (Aa t 0)).ex S).2):=by
  unfold Er;show (bif Ac (((Af F (Aa t 0)).ex S).1.ty.k=4) then _ else _)=_;rw [hq,AL];show (match (F8 F ((Af F (Aa t 0)).ex S).1.ty.name).1.find? (fun f=>Ac (f.name=t.o)) with|some f=>_|none=>_)=_;rw [hF];rfl
 rw [e];exact ⟨⟨_,rfl,BO (t:=AF t [_] Az) rfl (Ec (ks:=[_]) ⟨ag,DK E.J⟩ E.J.row (DG (aa.W (AA _))) (AA _))⟩,h,g⟩
set_option maxHeartbeats 2000000
theorem Nq.to{F t:Nd}(H:Nq F t){n0 b:Nat}{S:Ak}{w:Ae}{v:Bf}{N m0:Nat}(Z:List Nat)(h:D5 F n0 b S w)(hk:Bv w (fun k=>k<n0) t.j v)(hb:EO S N)(hc:N+count t≤1000000)(hZ:∀ j∈Z,j<w.heap.size)(hm:m0≤w.heap.size) :
 Bz An 148 #[.pointer (some ⟨b,0,none⟩),Cd t v] w fun r w'=>(∃ p c,r = .tuple #[Cd ((Af F t).N S).1.1 (.slice p ((Af F t).N S).1.1.j.length c),.bool ((Af F t).N S).1.2]∧m0≤w.heap.size∧EP w.heap.size Z w' ((Af F t).N S).1.1.j (.slice p ((Af F t).N S).1.1.j.length c))∧D5 F n0 b ((Af F t).N S).2 w'∧AP DU n0 w w' :=
 (H h hk hb hc).mono fun r w' hr=>by
 obtain ⟨⟨u,e,p,c,e2,k⟩,h1,h2⟩:=hr;subst e2;exact ⟨⟨p,c,e,hm,Gb.x k hZ⟩,h1,h2⟩
theorem Aew(F:Nd)(S:Ak)(t:Nd):(Cx F S t).1.j=[]:=by
 unfold Cx
 cases E9 S.F t.o with
 | some v=>rfl
 | none =>
  dsimp only;cases Ac (0≤(A9 F 6 t.o).2);cases Ac (0≤(A9 F 4 t.o).2) <;> rfl
  rfl
theorem PN{F:Nd}{S:Ak}{t:Nd}(lo:Nat)(w:Ae):Gb lo w (Cx F S t).1.j (.slice none 0 0):=by rw [Aew];exact IL _ _
theorem Aff{F t:Nd}(H:Li F)(K:∀ i,i<t.j.length→KP F (Aa t i))(HC:t.k=30→Dv F 146 t (Jf t (Av F t)))(hx:BN t=true):Dv F 121 t (Af F t).ex:=by
 intro n0 b S w v N h ac hb ak;have a3:(Af F t).ex S=Eg F t (Av F t) S:=by rw [GL];rfl
 rw [a3];obtain ⟨p,c,rfl,_⟩:=id ac;have bf:=h.lt;have ct:=JY t;have g:=AP.refl DU n0 w;refine Cu 110 [0,1] Tryz.func121 ?_;refine CT fun b3 _ ga _ g E=>?_;have h:=Ar h;have ac:=Ar ac;refine A5 fun b4 _ ga _ g E=>?_;have h:=Ar h;have ac:=Ar ac;refine Ad ?_;refine AO (Is t _ _ _) ?_;rintro _ _ ⟨rfl,ga⟩;refine A4 fun g E=>?_;have h:=AV h;have ac:=AV ac;refine A5 fun b5 _ ga _ g E=>?_;have h:=Ar h;have ac:=Ar ac;refine AX fun _ ga Ca g E h=>?_;have ac:=Co ac;refine Aw (fun h1=>?_) fun h1=>?_;have h1:t.k=24:=AH h1;refine AX fun _ ga Ca g E h=>?_;refine AX fun _ ga Ca g E h=>?_;refine AN ?_;have e:Eg F t (Av F t) S=(AF t [] tInt,S):=by unfold Eg;rw [BU h1];rfl
 rw [e];exact ⟨BO (t:=AF t [] tInt) rfl (IL _ _),h,g⟩;have h1:t.k≠24:=CF h1;refine Aw (fun h2=>?_) fun h2=>?_;have h2:t.k=25:=AH h2;refine AX fun _ ga Ca g E h=>?_;refine AX fun _ ga Ca g E h=>?_;refine AN ?_;have e:Eg F t (Av F t) S=(AF t [] tBool,S):=by unfold Eg;rw [Aq h1,BU h2];rfl
 rw [e];exact ⟨BO (t:=AF t [] tBool) rfl (IL _ _),h,g⟩;have h2:t.k≠25:=CF h2;refine Aw (fun h3=>?_) fun h3=>?_;have h3:t.k=26:=AH h3;refine AX fun _ ga Ca g E h=>?_;refine AX fun _ ga Ca g E h=>?_;refine AN ?_;have e:Eg F t (Av F t) S=(AF t [] tNil,S):=by unfold Eg;rw [Aq h1,Aq h2,BU h3];rfl
 rw [e];exact ⟨BO (t:=AF t [] tNil) rfl (IL _ _),h,g⟩;have h3:t.k≠26:=CF h3;refine Aw (fun h4=>?_) fun h4=>?_;have h4:t.k=38:=AH h4;refine Ad ?_;refine AO (Dv.to (uV K h4 hx) [b3,b4,b5] h ac hb ak (E.Q Br) g.size) ?_;rintro _ _ ⟨⟨a7,bg,rfl,aw,an⟩,h,ga⟩;refine A4 fun g E=>?_;refine AX fun _ ga Ca g E h=>?_;have an:=AK an;refine AN ?_;have hl:=(Q3 h4 hx).1
 have e:Eg F t (Av F t) S=Nw t (FA F t) S:=by
  unfold Eg;rw [Aq h1,Aq h2,Aq h3,BU h4];show Nw t (Av F t) S=_;unfold Nw;rw [Dq (show 0<t.j.length by omega)];rfl
 rw [e];exact ⟨BO rfl (an.W aw),h,g⟩;have h4:t.k≠38:=CF h4;refine Aw (fun h5=>?_) fun h5=>?_;have h5:t.k=30:=AH h5;refine Ad ?_;refine AO (Dv.to (HC h5) [b3,b4,b5] h ac hb ak (E.Q Br) g.size) ?_;rintro _ _ ⟨⟨be,a9,rfl,ay,am⟩,h,ga⟩;refine A4 fun g E=>?_;refine AX fun _ ga Ca g E h=>?_;have am:=AK am;refine AN ?_;have e:Eg F t (Av F t) S=Jf t (Av F t) S:=by unfold Eg;rw [Aq h1,Aq h2,Aq h3,Aq h4,BU h5];rfl
 rw [e];exact ⟨BO rfl (am.W ay),h,g⟩;have h5:t.k≠30:=CF h5;refine Aw (fun h6=>?_) fun h6=>?_;have h6:t.k=27:=AH h6;refine Ad ?_;refine AO (WM H t _ _ h hb O) ?_;rintro _ _ ⟨rfl,ga⟩;refine A4 fun g E=>?_;have h:=AV h;refine A5 fun _ _ ga _ g E=>?_;have h:=Ar h;refine AX fun _ ga Ca g E h=>?_;refine Aw (fun h7=>?_) fun h7=>?_;have hr:(Cx F S t).2=false:=by simpa using h7
 refine Ad ?_;refine AO (F4 t.z 5 h) ?_;rintro _ _ ⟨rfl,h,ga⟩;refine A4 fun g E=>?_;refine AX fun _ ga Ca g E h=>?_;refine AN ?_
 have e:Eg F t (Av F t) S=((Cx F S t).1,DV t.z 5 S):=by
  unfold Eg;rw [Aq h1,Aq h2,Aq h3,Aq h4,Aq h5,BU h6];show ((Cx F S t).1,bif (Cx F S t).2 then AG (E4 (Cx F S t).1.ty) t.z 7 S else DV t.z 5 S)=_;rw [hr];rfl
 rw [e];exact ⟨BO (t:=(Cx F S t).1) rfl (PN _ _),h,g⟩;have hr:(Cx F S t).2=true:=by simpa using h7
 refine Ad ?_;refine DI (PV _ _) (fun bb ao=>?_);have g:=BZ g ao;replace E:=E.A ao;have h:=h.A (ao);refine Aw (fun h8=>?_) fun h8=>?_;have hv:E4 (Cx F S t).1.ty=false:=by simpa using h8
 refine Ad ?_;refine AO (F4 t.z 7 h) ?_;rintro _ _ ⟨rfl,h,ga⟩;refine A4 fun g E=>?_;refine AX fun _ ga Ca g E h=>?_;refine AN ?_
 have e:Eg F t (Av F t) S=((Cx F S t).1,DV t.z 7 S):=by
  unfold Eg;rw [Aq h1,Aq h2,Aq h3,Aq h4,Aq h5,BU h6];show ((Cx F S t).1,bif (Cx F S t).2 then AG (E4 (Cx F S t).1.ty) t.z 7 S else DV t.z 5 S)=_;rw [hr,hv];rfl
 rw [e];exact ⟨BO (t:=(Cx F S t).1) rfl (PN _ _),h,g⟩;have hv:E4 (Cx F S t).1.ty=true:=by simpa using h8
 refine AX fun _ ga Ca g E h=>?_;refine AN ?_
 have e:Eg F t (Av F t) S=((Cx F S t).1,S):=by
  unfold Eg;rw [Aq h1,Aq h2,Aq h3,Aq h4,Aq h5,BU h6];show ((Cx F S t).1,bif (Cx F S t).2 then AG (E4 (Cx F S t).1.ty) t.z 7 S else DV t.z 5 S)=_;rw [hr,hv];rfl
 rw [e];exact ⟨BO (t:=(Cx F S t).1) rfl (PN _ _),h,g⟩;have h6:t.k≠27:=CF h6;refine Aw (fun h9=>?_) fun h9=>?_;have h9:t.k=28:=AH h9;refine Ad ?_;refine AO (Nq.to (fQ K h9 hx) [b3,b4,b5] h ac hb ak (E.Q Br) g.size) ?_;rintro _ _ ⟨⟨a8,bc,rfl,aq,ad⟩,h,ga⟩;refine A4 fun g E=>?_;refine A5 fun _ _ ga _ g E=>?_;have ad:=Bq ad;have h:=Ar h;refine AX fun _ ga Ca g E h=>?_;have ad:=AK ad;refine Ad ?_;refine GA (fun hc=>PV _ _) (fun ba al=>?_);have g:=BZ g al;replace E:=E.A al;have h:=h.A (al);have ad:=ad.A (al);refine Aw (fun aj=>?_) fun aj=>?_;(try simp only [BH] at aj);refine Ad ?_;refine AO (F4 t.z 7 h) ?_;rintro _ _ ⟨rfl,h,ga⟩;refine A4 fun g E=>?_;have ad:=DP ad;refine AX fun _ ga Ca g E h=>?_;have ad:=AK ad;refine AN ?_
 have e:Eg F t (Av F t) S=(((Af F t).N S).1.1,AG (!(((Af F t).N S).1.2 && !E4 ((Af F t).N S).1.1.ty)) t.z 7 ((Af F t).N S).2):=by
  have em:((Af F t).N S)=Er F t (Av F t) S:=by rw [GL];rfl
  rw [em];unfold Eg;rw [Aq h1,Aq h2,Aq h3,Aq h4,Aq h5,Aq h6,BU h9];rfl
 rw [e,aj];exact ⟨BO rfl (ad.W aq),h,g⟩;refine AX fun _ ga Ca g E h=>?_;have ad:=AK ad;refine AN ?_
 have e:Eg F t (Av F t) S=(((Af F t).N S).1.1,AG (!(((Af F t).N S).1.2 && !E4 ((Af F t).N S).1.1.ty)) t.z 7 ((Af F t).N S).2):=by
  have em:((Af F t).N S)=Er F t (Av F t) S:=by rw [GL];rfl
  rw [em];unfold Eg;rw [Aq h1,Aq h2,Aq h3,Aq h4,Aq h5,Aq h6,BU h9];rfl
 rw [e,aj];exact ⟨BO rfl (ad.W aq),h,g⟩;have h9:t.k≠28:=CF h9;refine Aw (fun ae=>?_) fun ae=>?_;have ae:t.k=34:=AH ae;obtain ⟨fv,sv,sn,h⟩:=h;refine Ad ?_;refine Dx (Ej none) [3,3,3,0,3,0,1,3,3,3,1,2,3] [0,1,3,7,0,16,63,127,255,255,0,1535,4095] CG Ag [0,1,2,3,4,5,6,7,8,9,10,11,12] J ?_;refine Da fun g E h=>?_;refine As 0 J J (Bm J) (As 1 J J (fun _=>FZ (Ab J)) (As 2 J J (fun _=>AB OC (Ab J)) (Bb 3 J J (fun w1 hx=>A8 A3 (Ab J) J (fun _=>(h.B.C hx (by intro q;first|(injection q with q;omega)|cases q)).row.part 0 9)) (As 4 J J (fun _=>AB E2 (Ab J)) (Bb 5 J J (fun w1 hx=>AZ DW (Ab J) (fun _=>(E.g2.C hx DD).y J)) (Lx 6 10 J J ?_ ?_))))));refine Bt (L':=[7,8,9,10,11,12]) [3,3,3,0,3,0,1,3,3,3,1,2,3] rfl rfl rfl ?_;refine AO (Lt F fv _ _ 2 t.o h.kF h.hF) ?_;rintro a1 a2 ⟨⟨ax,az,rfl,av⟩,af⟩;refine ⟨fun _=>af,?_⟩;have g:=BZ g af;replace E:=E.A af;have h:=h.A (af);refine Bs ((af).O _) ?_;refine As 7 J J (Bm J) (As 8 J J (fun _=>Gr (Ab J) J) (As 9 J J (fun _=>Gr (Ab J) J) (AW 10 J J ?_)));refine Bt (L':=[11,12]) [3,3,3,0,3,0,1,3,3,3,1,2,3] J J J ?_;refine A5 fun _ _ ai a6 g E=>?_;have h:=h.A (ai.g);refine Bs ((ai.g).O _) ?_;refine AW 11 J J ?_;refine DN (L':=[12]) [3,3,3,0,3,0,1,3,3,3,1,2,3] J J J J ?_;refine AX fun _ ga Ca g E h=>?_;refine DL ?_;refine As 12 J J (fun _=>Fj (Ab J)) (Dt [0,3,4,5,11] (FW (Al (Am (Au (Ap J (GG J J (Ai (Al (Cv J (fun ag=>?_) (fun ag=>?_)))))))))))
 have hr:Ac ((A9 F 2 t.o).2<0)=true:=by simpa using ag
 refine Au (Ap J (AE H7 J (AM Cb J (E.g3.y J) (AO (F4 t.z 5 h.ah) ?_))));rintro _ _ ⟨rfl,h,ga⟩;refine A4 fun g E=>?_;refine Ai (Al (Am (Au (AE E2 J (AM DW J (E.g3.y J) (Hg FF Ia (Bk J (Bk J CH)) J J (AE Fg J (Df J ET (Ab J) (Ab J) J J E.U J J ?_))))))));intro au aa _ BS;have C5:=E.U;replace E:=E.s1 aa BS;have g:=Cw g aa O;have h:=h.C aa C5 rfl O;refine AX fun _ ga Ca g E h=>?_;refine Ai (Al (Dl (LJ J (GJ J A3 J (E.g2.row) (GD)) ?_)))
 have e:Eg F t (Av F t) S=(AF t [] ⟨4,t.o⟩,DV t.z 5 S):=by
  unfold Eg;rw [Aq h1,Aq h2,Aq h3,Aq h4,Aq h5,Aq h6,Aq h9,BU ae];show (AF t [] ⟨4,t.o⟩,AG (!Ac ((A9 F 2 t.o).2<0)) t.z 5 S)=_;rw [hr];rfl
 rw [e];exact ⟨BO (t:=AF t [] ⟨4,t.o⟩) rfl (IL _ _),h,g⟩;have hr:Ac ((A9 F 2 t.o).2<0)=false:=by simpa using ag
 refine CJ (Al (Am (Au (AE E2 J (AM DW J (E.g3.y J) (Hg FF Ia (Bk J (Bk J CH)) J J (AE Fg J (Df J ET (Ab J) (Ab J) J J E.U J J ?_))))))));intro ar ab _ BS;have C5:=E.U;replace E:=E.s1 ab BS;have g:=Cw g ab O;have h:=h.C ab C5 rfl O;refine AX fun _ ga Ca g E h=>?_;refine AN ?_
 have e:Eg F t (Av F t) S=(AF t [] ⟨4,t.o⟩,S):=by
  unfold Eg;rw [Aq h1,Aq h2,Aq h3,Aq h4,Aq h5,Aq h6,Aq h9,BU ae];show (AF t [] ⟨4,t.o⟩,AG (!Ac ((A9 F 2 t.o).2<0)) t.z 5 S)=_;rw [hr];rfl
 rw [e];exact ⟨BO (t:=AF t [] ⟨4,t.o⟩) rfl (IL _ _),h.ah,g⟩;refine Bt (L':=[6,7,8,9,11,12]) [3,3,3,0,3,0,1,3,3,3,1,2,3] rfl rfl rfl ?_;refine A5 fun _ _ ai _ g E=>?_;have h:=h.A (ai.g);refine Bs ((ai.g).O _) ?_;refine AW 6 J J ?_;refine Bt (L':=[7,8,9,11,12]) [3,3,3,0,3,0,1,3,3,3,1,2,3] J J J ?_;refine AO (Lt F fv _ _ 2 t.o h.kF h.hF) ?_;rintro a1 a2 ⟨⟨ax,az,rfl,av⟩,af⟩;refine ⟨fun _=>af,?_⟩;have g:=BZ g af;replace E:=E.A af;have h:=h.A (af);refine Bs ((af).O _) ?_;refine As 7 J J (Bm J) (As 8 J J (fun _=>Gr (Ab J) J) (As 9 J J (fun _=>Gr (Ab J) J) (AW 11 J J ?_)));refine DN (L':=[12]) [3,3,3,0,3,0,1,3,3,3,1,2,3] J J J J ?_;refine AX fun _ ga Ca g E h=>?_;refine DL ?_;refine As 12 J J (fun _=>Fj (Ab J)) (Dt [0,3,4,5,11] (FW (Al (Am (Au (Ap J (GG J J (Ai (Al (Cv J (fun ag=>?_) (fun ag=>?_)))))))))));have hr:Ac ((A9 F 2 t.o).2<0)=true:=by simpa using ag
 refine Au (Ap J (AE H7 J (AM Cb J (E.g3.y J) (AO (F4 t.z 5 h.ah) ?_))));rintro _ _ ⟨rfl,h,ga⟩;refine A4 fun g E=>?_;refine Ai (Al (Am (Au (AE E2 J (AM DW J (E.g3.y J) (Hg FF Ia (Bk J (Bk J CH)) J J (AE Fg J (Df J ET (Ab J) (Ab J) J J E.U J J ?_))))))));intro au aa _ BS;have C5:=E.U;replace E:=E.s1 aa BS;have g:=Cw g aa O;have h:=h.C aa C5 rfl O;refine AX fun _ ga Ca g E h=>?_;refine Ai (Al (Dl (LJ J (GJ J A3 J (E.g2.row) (GD)) ?_)))
 have e:Eg F t (Av F t) S=(AF t [] ⟨4,t.o⟩,DV t.z 5 S):=by
  unfold Eg;rw [Aq h1,Aq h2,Aq h3,Aq h4,Aq h5,Aq h6,Aq h9,BU ae];show (AF t [] ⟨4,t.o⟩,AG (!Ac ((A9 F 2 t.o).2<0)) t.z 5 S)=_;rw [hr];rfl
 rw [e];exact ⟨BO (t:=AF t [] ⟨4,t.o⟩) rfl (IL _ _),h,g⟩;have hr:Ac ((A9 F 2 t.o).2<0)=false:=by simpa using ag
 refine CJ (Al (Am (Au (AE E2 J (AM DW J (E.g3.y J) (Hg FF Ia (Bk J (Bk J CH)) J J (AE Fg J (Df J ET (Ab J) (Ab J) J J E.U J J ?_))))))));intro ar ab _ BS;have C5:=E.U;replace E:=E.s1 ab BS;have g:=Cw g ab O;have h:=h.C ab C5 rfl O;refine AX fun _ ga Ca g E h=>?_;refine AN ?_
 have e:Eg F t (Av F t) S=(AF t [] ⟨4,t.o⟩,S):=by
  unfold Eg;rw [Aq h1,Aq h2,Aq h3,Aq h4,Aq h5,Aq h6,Aq h9,BU ae];show (AF t [] ⟨4,t.o⟩,AG (!Ac ((A9 F 2 t.o).2<0)) t.z 5 S)=_;rw [hr];rfl
 rw [e];exact ⟨BO (t:=AF t [] ⟨4,t.o⟩) rfl (IL _ _),h.ah,g⟩;have ae:t.k≠34:=CF ae;refine Ad ?_;refine AO (Dv.to (mR K hx ⟨h1,h2,h3,h6,ae,h9,h5,h4⟩) [b3,b4,b5] h ac hb ak (E.Q Br) g.size) ?_;rintro _ _ ⟨⟨a5,a4,rfl,ap,ah⟩,h,ga⟩;refine A4 fun g E=>?_;refine AX fun _ ga Ca g E h=>?_;have ah:=AK ah;refine AN ?_;have hl:=(aA hx ⟨h1,h2,h3,h6,ae,h9,h5,h4⟩).1
 have e:Eg F t (Av F t) S=Fu t (FA F t) S:=by
  have e0:Eg F t (Av F t) S=Fu t (Av F t) S:=by unfold Eg;rw [Aq h1,Aq h2,Aq h3,Aq h4,Aq h5,Aq h6,Aq h9,Aq ae];rfl
  rw [e0];unfold Fu;rw [Dq (show 0<t.j.length by omega)];by_cases k29:t.k=29;have:=(Rl k29 hx).1;rw [Dq (show 1<t.j.length by omega)];rfl;by_cases k32:t.k=32;have:=(SN k32 hx).2.1;rw [Dq (show 1<t.j.length by omega)];rfl;rw [Aq k29,Aq k32];rfl
 rw [e];exact ⟨BO rfl (ah.W ap),h,g⟩
section
variable {P:Program} {n:Nat} {σ:List Ce} {c:Prop} {wb:Ae} {ty:AD}
end
section
variable {P:Program} {Z:List PanicEntry→Act→Ae→Prop} {ops:List Oper} {cl:List Nat} {lv:List Bool} {W0:Ae} {n:Nat} {K:Act→Ae→Prop} {k:Nat} {rest:List Oper} {σ:List Ce} {w:Ae} {d:Nat} {ty:AD} {pos:String} {after:Array Edge}
theorem dL{t e z ac:Nat}(hb:(!Bu (Bw cl k) 0 && !Bu (Bw cl k) 3&&Eo d n)=true)(ht:Gf P t=some (e,z,ac))
 (h:∀ b w1,b=w.heap.size→(∀ base,base≤w.heap.size→w1.ownsRow base e z (.slice (some ⟨b,0,none⟩) 0 0) 0 [])→G w w1→BK P Z ops cl lv W0 n K (k+1) rest ((d,True,.slice (some ⟨b,0,none⟩) 0 0) :: σ) w1) :
 BK P Z ops cl lv W0 n K k (⟨some d,.buildSlice t 0 #[],ty,pos,after,none⟩::rest) σ w:=by
 obtain ⟨hu,i,hi,ae,ad⟩:=Ms ht;have hN:=MO w e [];refine Oa hb (w':=w.alloc (.cells #[] e)) (fun d pos after g a ha _=>?_) (fun _=>hN.g) (h _ _ J (fun base aa=>World.ownsRow_lit w #[] 0 aa (Cq _) BR) hN.g);have ab:Array.range 0 = #[]:=by decide
 simp [execOp,Instr.buildSlice,run_underlying hu,Rg hi,Instr.fill,newRow,ab]
theorem qT{t e z aa m q cp b:Nat}{x y:Operand}{o:Option Addr}(hb:(Bu (Bw cl k) 2&&Eo d n)=true)(ht:Gf P t=some (e,z,aa))(hx:BI n σ True x (.slice (some ⟨b,0,none⟩) m cp))(hm:m≤cp)(hy:BI n σ True y (.slice o 0 q))
 (h:BK P Z ops cl lv W0 n K (k+1) rest ((d,True,.slice (some ⟨b,0,none⟩) m cp) :: σ) w) :
 BK P Z ops cl lv W0 n K k (⟨some d,.call { callee:=.builtin .append,args:=#[x,y],argTypes:=#[t,t] },ty,pos,after,none⟩::rest) σ w:=by
 obtain ⟨hu,i,hi,ac,ab⟩:=Ms ht;simp only [Ao] at hb;have hc:=Kv hb.1;refine Oa (w':=w) (by rw [hc,hb.2];rfl) (fun d pos after g a ha _=>?_) (fun hh=>O) h
 have hr:(Builtin.append_ #[t,t] ty #[.slice (some ⟨b,0,none⟩) m cp,.slice o 0 q]).run P w = .ok (.slice (some ⟨b,0,none⟩) m cp) w:=by
  cases o <;> simp [Builtin.append_,run_underlying hu,Rg hi,Builtin.lenOf,Builtin.firstCells,hm,loadCells,loadCellsFrom,storeCells]
 simp only [execOp,resolve,invoke,builtin,Sem.run_bind,Sem.run_pure,Bl,List.map_toArray,List.map_cons,List.map_nil,hx a ha Cc,hy a ha Cc,hr]
theorem oY(w:Ae)(row:Option Nat):w.grownBy w row:=(G.refl w).O row
theorem Yx{t e z ab base m q q' cp b:Nat}{x y:Operand}{zv:Bf}{xs news:List Bf}{o:Option Addr}(hb:(Bu (Bw cl k) 2&&Eo d n)=true)(ht:Gf P t=some (e,z,ab))(al:Gh P e=some zv)
 (an:zv.cells.size=z) (am:0<z) (hx:BI n σ True x (.slice (some ⟨b,0,none⟩) m cp)) (aa:w.ownsRow base e z (.slice (some ⟨b,0,none⟩) m cp) m xs) (hy:BI n σ True y (.slice o q q')) (hl:news.length=q*z) (hn:0<q→∃ b' o',o=some ⟨b',o',none⟩∧CQ w b' o' news) (h1:∀ u∈news,u.oneCell'=true)
 (ak:m+q≤maxLen) (ao:(m+q)*ab≤140737488355328) (ac:base≤w.heap.size)
 (h:∀ a' c' w',w'.ownsRow base e z (.slice a' (m+q) c') (m+q) (xs++news)→w.grownBy w' (AJ (some ⟨b,0,none⟩) m cp).ownBlock→BK P Z ops cl lv W0 n K (k+1) rest ((d,True,.slice a' (m+q) c') :: σ) w') :
 BK P Z ops cl lv W0 n K k (⟨some d,.call { callee:=.builtin .append,args:=#[x,y],argTypes:=#[t,t] },ty,pos,after,none⟩::rest) σ w:=by
 rcases Nat.eq_zero_or_pos q with h0|h0;subst h0;have ad:news=[]:=List.eq_nil_of_length_eq_zero (by simpa using hl);subst ad;obtain ⟨a,c,hv,ag⟩:=IJ aa;injection hv with _ _ hv;subst hv;refine qT hb ht hx ag hy ?_;exact h _ _ w (by simpa using aa) (oY w _);obtain ⟨b',o',rfl,hr⟩:=hn h0;obtain ⟨hu,i,hi,ai,ae⟩:=Ms ht;obtain ⟨i',ah,ap⟩:=PC al;obtain rfl:i=i':=EM (hi.symm.trans ah);simp only [Ao] at hb;have hc:=Kv hb.1;obtain ⟨s',w',r1,r2,r3,_⟩:=run_append_own (P:=P) w base t ty e i zv z ab hu hi ap ai ae an am _ m xs aa ⟨b',o',none⟩ q q' news hl (fun j u hj=>by rw [Addr.add_lit];exact hr j u hj) h1 ak ao ac
 obtain ⟨a',c',aj⟩:∃ a' c',s' = .slice a' (m+q) c':=by
  rcases r2.2 with ⟨q1,q2⟩|⟨g,af,aq,q1,_⟩;exact ⟨none,0,by rw [q1,q2]⟩;exact ⟨_,af,q1⟩
 subst aj;refine Oa (w':=w') (by rw [hc,hb.2];rfl) (fun d pos after g a ha _=>?_) (fun hh=>O) (h a' c' w' r2 r3);simp only [execOp,resolve,invoke,builtin,Sem.run_bind,Sem.run_pure,Bl,List.map_toArray,List.map_cons,List.map_nil,hx a ha Cc,hy a ha Cc,r1]
end
end Go.Rk
