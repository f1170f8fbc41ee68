/- Merged texts. Conditions: each text's own. -/
import Derived.Test.YtmpfjifhkmdbaaaGreatDoorI07
import Derived.Test.YtmpfjifhkmdbaaaGreatDoorI04
import Derived.Test.YtmpfjifhkmdbaaaGreatDoorI06
import Derived.Test.YtmpfjifhkmdbaaaGreatDoorI03
set_option linter.unusedSimpArgs false
set_option linter.unusedVariables false
set_option maxHeartbeats 16000000
set_option maxRecDepth 100000
open Bool renaming or_eq_false_iff→Aja,and_eq_true→Ala,and_eq_false_iff→Aya
open Go renaming World→Aa,Value→Ba
open Int renaming le_refl→Aua
open List renaming getElem_mem→Aaa,length_append→Aca,mem_cons_of_mem→Ada,append_assoc→Aea,map_cons→Afa,append_nil→Aga,length_drop→Aha,mem_cons_self→Aia,mem_flatMap→Aka,take_zero→Ama,nil_append→Ana,take_of_length_le→Apa,length_take→Aqa,getD_eq_getElem?_getD→Asa,getElem?_eq_getElem→Ata,mem_singleton→Ava,drop_of_length_le→Awa,take_succ_eq_append_getElem→Axa
open Nat renaming le_refl→Aba,zero_add→Aoa,zero_le→Ara
namespace Go.Proofs
end Go.Proofs
namespace Go.Rk
open Go.Proofs
open Go Go.RowKit
def rnN:List UInt8:=[114,101,110,97,109,101,100]
def renN(f s:List UInt8):List UInt8:=bif decide (s=f) then rnN else s
def dclB(t:Nd):Bool:=((decide (t.kind=27) || decide (t.kind=6)) || decide (t.kind=11)) || decide (t.kind=3)
def renL(f:List UInt8)(t:Nd):List UInt8:=bif dclB t&&(decide (t.ref=1)&&decide (t.text=f)) then rnN else t.text
def renT(f:List UInt8)(t:Nd):Nd:=para (fun t l=>.mk t.kind (renL f t) t.num t.pos l t.ty t.ref t.up) t
theorem Jmf(f:List UInt8)(t:Nd):renT f t = .mk t.kind (renL f t) t.num t.pos (t.kids.map (renT f)) t.ty t.ref t.up:=Zla _ t
section
variable {f:List UInt8} {t:Nd}
theorem Jnf{t:Nd}(h:t.ref≠1):renL f t=t.text:=by unfold renL;rw [Wmg h];cases dclB t <;> rfl
theorem Xzg:renT f nd0=nd0:=by rw [Jmf,Jnf Od];rfl
end
/-! states -/
def renV(f:List UInt8)(v:Vr):Vr:={ v with name:=renN f v.name }
def renS(f:List UInt8)(S:CSt):CSt:={ S with vars:=S.vars.map (renV f) }
structure Vn (S:CSt):Prop where
  n:∀ v∈S.vars,v.name≠rnN
  s:Sc S
section
variable {f:List UInt8} {S T:CSt}
theorem Vn.vs(h:Vn S)(k:Vs S T):Vn T:=⟨fun v hv=>h.n v (k.vars▸hv),k.sc h.s⟩
theorem Vn.decl(h:Vn S){s:List UInt8}(hs:s≠rnN)(y:Ty)(a:Int):Vn (declS s y a S):=⟨fun v hv=>by
 have hv:v∈S.vars++[⟨s,y,declN S,S.level,S.scope⟩]:=hv;rcases List.mem_append.1 hv with q|q;exact h.n v q;rw [Ava.1 q];exact hs,(Yra s y a S).sc h.s⟩
end
structure FlX (F F':Nd):Prop where
  r:FlR F F'
  n6:∀ s,(findD F' 6 s).2=(findD F 6 s).2
  n4:∀ s,(findD F' 4 s).2=(findD F 4 s).2
def Tn(t:Nd):Prop:=∀ y∈listN t,y.text≠rnN
theorem Tn.kid{t:Nd}(h:Tn t)(i:Nat):Tn (Zb t i):=by
 by_cases hi:i<t.kids.length;rw [Yz hi];exact fun y hy=>h y (by rw [Xla];exact Ada _ (Aka.2 ⟨_,Aaa hi,hy⟩));rw [Jzb hi];intro y hy;have e:listN nd0=[nd0]:=by rw [Xla];rfl
 rw [e] at hy;rw [Ava.1 hy];decide
structure Tw (f:List UInt8) (t:Nd) (ks:List Nd) (t':Nd):Prop where
  kind:t'.kind=t.kind
  pos:t'.pos=t.pos
  num:numS t'=numS t
  kids:t'.kids=ks.map (renT f)
section
variable {f:List UInt8} {F F' t t':Nd} {ks:List Nd} {S:CSt}
theorem Tw.len(h:Tw f t ks t'):t'.kids.length=ks.length:=by rw [h.kids,List.length_map]
theorem Tw.kid(h:Tw f t ks t')(i:Nat):Zb t' i=renT f (ks.getD i nd0):=by
 unfold Zb;rw [h.kids];exact Uwd (renT f) ks i nd0 nd0 Xzg
theorem Tw.x(h:Tw f t ks t'){i:Nat}(hi:i<ks.length):ckX F' t' i=ckT F' (renT f (ks.getD i nd0)):=by
 rw [Wl (by rw [h.len];exact hi),h.kid]
end
structure Rn (f:List UInt8) (F F' t:Nd) (c:Ck):Prop where
  ex:exprB t=true→∀ S,Vn S→(c.ex S).2.ee=0→(ckT F' (renT f (c.ex S).1)).ex (renS f S)=(renT f (c.ex S).1,renS f (c.ex S).2)
  mem:t.kind=28→exprB t=true→∀ S,Vn S→(c.mem S).2.ee=0→(ckT F' (renT f (c.mem S).1.1)).mem (renS f S)=((renT f (c.mem S).1.1,(c.mem S).1.2),renS f (c.mem S).2)
  rcv:exprB t=true→∀ S,Vn S→(c.rcv S).2=true→(ckT F' (renT f (c.rcv S).1)).rcv (renS f S)=(renT f (c.rcv S).1,true)
  rcf:exprB t=true→∀ S,Vn S→(c.rcv S).2=false→(c.ex S).2.ee=0→((ckT F' (renT f (c.ex S).1)).rcv (renS f S)).2=false
  rcm:t.kind=28→∀ S,(c.rcv S).1=(c.mem S).1.1
  rck:∀ S,(c.rcv S).2=true→(c.rcv S).1.kind=t.kind
  cal:exprB t=true→∀ S,Vn S→(c.cal S).2.ee=0→(ckT F' (renT f (c.cal S).1.1)).cal (renS f S)=((renT f (c.cal S).1.1,(c.cal S).1.2),renS f (c.cal S).2)
  st:stmtB t=true→∀ S,Vn S→(c.st S).2.ee=0→(ckT F' (renT f (c.st S).1)).st (renS f S)=(renT f (c.st S).1,renS f (c.st S).2)∧Vn (c.st S).2
  blk:blockB t=true→∀ S,Vn S→(c.blk S).2.ee=0→(ckT F' (renT f (c.blk S).1)).blk (renS f S)=(renT f (c.blk S).1,renS f (c.blk S).2)
  ifs:ifB t=true→∀ S,Vn S→(c.ifs S).2.ee=0→(ckT F' (renT f (c.ifs S).1)).ifs (renS f S)=(renT f (c.ifs S).1,renS f (c.ifs S).2)
  sts:blockB t=true→∀ S,Vn S→(c.sts S).2.ee=0→(ckT F' (renT f (c.sts S).1)).sts (renS f S)=(renT f (c.sts S).1,renS f (c.sts S).2)∧Vn (c.sts S).2
  cas:Zya t=true→∀ b S,Vn S→(c.cas b S).2.ee=0→(ckT F' (renT f (c.cas b S).1)).cas b (renS f S)=(renT f (c.cas b S).1,renS f (c.cas b S).2)
theorem Al.kind{x t:Nd}(h:Al x t):x.kind=t.kind:=by rw [← Xzd x,← Xzd t,h]
theorem Al.pos{x t:Nd}(h:Al x t):x.pos=t.pos:=by rw [← Wlf x,← Wlf t,h]
theorem Al.text{x t:Nd}(h:Al x t):x.text=t.text:=by rw [← Wie x,← Wie t,h]
theorem Al.len{x t:Nd}(h:Al x t):x.kids.length=t.kids.length:=by rw [← Jbc x,← Jbc t,h]
theorem Al.kid{x t:Nd}(h:Al x t)(i:Nat):Al (Zb x i) (Zb t i):=by unfold Al at h ⊢;rw [← Urc,← Urc,h]
theorem Al.ends{x t:Nd}(h:Al x t):endT x=endT t:=by rw [← Wje x,← Wje t,h]
section
variable {f:List UInt8} {F F' t:Nd} {S:CSt}
end
section
variable {f:List UInt8} {F F' t:Nd} {S:CSt}
/-! statements -/
end
section
variable {f:List UInt8} {F F' t:Nd} {S:CSt}
end
/-! declarations, files -/
section
variable {f:List UInt8} {F F':Nd} {S:CSt}
/-! what the renamed file declares -/
structure Dq (d x:Nd):Prop where
  kind:x.kind=d.kind
  text:x.text=d.text
  q0:d.kind=6→ofF (Zb x 0)=ofF (Zb d 0)
  p:(Zb x 0).kids.map (fun p=>(ofF (Zb p 0)).1)=(Zb d 0).kids.map (fun p=>(ofF (Zb p 0)).1)
  q1:ofF (Zb x 1)=ofF (Zb d 1)
  k1:(Zb x 1).kind=(Zb d 1).kind
  fl:d.kind=2→mapO Qj x.kids=mapO Qj d.kids
end
section
variable {P:Program} {Z:List PanicEntry→Act→Aa→Prop} {ops:List Oper} {cl:List Nat} {lv:List Bool} {W0:Aa} {n:Nat} {K:Act→Aa→Prop} {k:Nat} {rest:List Oper} {σ:List Ent} {w:Aa} {d:Nat} {ty:TypeId} {pos:String} {after:Array Edge}
theorem Wag{e base b:Nat}{D:Nat→Prop}(ho:w.ownsRow base e 9 (.slice (some ⟨b,0,none⟩) 0 0) 0 [])(hD:D b):OwnK e D base w [] (.slice (some ⟨b,0,none⟩) 0 0):=⟨[],ho,Xsb,fun k hk=>by injection hk with hk;exact hk▸hD⟩
theorem Uwc{t e base q' b cp:Nat}{x y:Operand}{zv:Ba}{p:Option Addr}{D D':Nat→Prop}{ks ls:List Nd}(hb:(Nat.beq (clOf cl k) 2&&Nat.blt d n)=true)(ht:tyElem P t=some (e,9,104))(hzv:zeroOf P e=some zv)
 (hzs:zv.cells.size=9) (hx:Ev n σ True x (.slice (some ⟨b,0,none⟩) ks.length cp)) (hO:OwnK e D base w ks (.slice (some ⟨b,0,none⟩) ks.length cp)) (hcp:ks.length≤cp) (hy:Ev n σ True y (.slice p ls.length q')) (hk:Kd w D' ls (.slice p ls.length q')) (hD':∀ j,D' j→D j∧j≠b)
 (hlen:ks.length+ls.length≤10000000) (hbase:base≤w.heap.size) (hD:D w.heap.size)
 (h:∀ a' c' w',OwnK e D base w' (ks++ls) (.slice a' (ks++ls).length c')→w.grownBy w' (some b)→base≤b→SR P Z ops cl lv W0 n K (k+1) rest ((d,True,.slice a' (ks++ls).length c') :: σ) w') :
 SR P Z ops cl lv W0 n K k (⟨some d,.call { callee:=.builtin .append,args:=#[x,y],argTypes:=#[t,t] },ty,pos,after,none⟩::rest) σ w:=by
 have hge:base≤b:=hO.ge b rfl;by_cases hl:ls=[];subst hl;have h':=h (some ⟨b,0,none⟩) cp w (by rw [Aga];exact hO) ⟨rfl,rfl,rfl,Aba _,fun _ _ _=>rfl⟩ hge;rw [Aga] at h';exact Jvd hb ht hx hcp hy h';obtain ⟨p',c,e1,hc,hks⟩:=hk;injection e1 with e1 _ e2;subst e1 e2;obtain ⟨b',o,rfl,hDb',xs,hR,hX⟩:=hks (List.length_pos_iff.2 hl);have hX':KRow w (fun j=>D j∧some j≠(Value.slice (some ⟨b,0,none⟩) ks.length cp).ownBlock) ls xs:=hX.mono fun j hj _=>⟨(hD' j hj).1,fun he=>(hD' j hj).2 (by injection he)⟩;exact Vcc hb ht hzv hzs hx hO hy rfl hR hX' hlen hbase hD fun a' c' w' ho' hg=>h a' c' w' ho' hg hge
theorem Xgc{t e base q' b:Nat}{x y:Operand}{zv:Ba}{p:Option Addr}{D D':Nat→Prop}{ls:List Nd}(hb:(Nat.beq (clOf cl k) 2&&Nat.blt d n)=true)(ht:tyElem P t=some (e,9,104))(hzv:zeroOf P e=some zv)
  (hzs:zv.cells.size=9) (hx:Ev n σ True x (.slice (some ⟨b,0,none⟩) 0 0)) (ho:w.ownsRow base e 9 (.slice (some ⟨b,0,none⟩) 0 0) 0 []) (hDb:D b) (hy:Ev n σ True y (.slice p ls.length q')) (hk:Kd w D' ls (.slice p ls.length q')) (hD':∀ j,D' j→D j∧j≠b)
  (hlen:ls.length≤10000000) (hbase:base≤w.heap.size) (hD:D w.heap.size)
  (h:∀ a' c' w',OwnK e D base w' ls (.slice a' ls.length c')→w.grownBy w' (some b)→base≤b→SR P Z ops cl lv W0 n K (k+1) rest ((d,True,.slice a' ls.length c') :: σ) w') :
  SR P Z ops cl lv W0 n K k (⟨some d,.call { callee:=.builtin .append,args:=#[x,y],argTypes:=#[t,t] },ty,pos,after,none⟩::rest) σ w :=
 Uwc (ks:=[]) hb ht hzv hzs hx (Wag ho hDb) (Aba _) hy hk hD' (by simpa using hlen) hbase hD h
end
theorem u8_c{z:Int}(h:(Lit.int .u8 z).wf=true):0≤z∧z≤255:=by
 simp only [Lit.wf,Ala,Wpg] at h;exact h
theorem Qbd{w w':Aa}{D D':Nat→Prop}{t:Nd}{v:Ba}(hD:∀ b,D b→b<w.heap.size→D' b)(hf:∀ b,D b→b<w.heap.size→w'.heap[b]? = w.heap[b]?)(ht:Kd w' D' t.kids v):∀ {ks:List Nd} {xs:List Ba} (_:KRow w D ks xs) {i:Nat} (_:i<ks.length),KRow w' D' (ks.set i t) (xs.take (i*9)++ndCells t v++xs.drop (i*9+9))
 | s::ks,xs,h,0,_=>by
  obtain ⟨u,r,rfl,h1,h2⟩:=h;have e:(ndCells s u).length=9:=Jj _ _;show KRow w' D' (t::ks) _;rw [Nat.zero_mul,Ama,Ana,Aoa,List.drop_append,Awa O,e,Nat.sub_self,List.drop_zero,Ana];exact Uo ht (Qc hD hf _ _ h2)
 | s::ks,xs,h,i+1,hi=>by
  obtain ⟨u,r,rfl,h1,h2⟩:=h;have e:(ndCells s u).length=9:=Jj _ _;have k:=Qbd hD hf ht h2 (i:=i) (by simpa using hi);show KRow w' D' (s::ks.set i t) _;have h1':Kd w' D' s.kids u:=by rw [Zvc] at h1;exact Wp h1 hD hf
  rw [List.take_append,Apa O,e,show (i+1)*9-9=i*9 by omega,List.drop_append,Awa O,e,show (i+1)*9+9-9=i*9+9 by omega,Ana,Aea,Aea,← Aea (r.take _)];exact Uo h1' k
theorem OwnK.seti{e:TypeId}{D:Nat→Prop}{base:Nat}{w:Aa}{ks:List Nd}{s:Ba}(h:OwnK e D base w ks s){i:Nat}(hi:i<ks.length):∃ g c l,s = .slice (some ⟨g,0,none⟩) ks.length c∧Blk w g e l∧i*9+9≤l.length∧D g∧base≤g∧
 (∃ v,(l.drop (i*9)).take 9=ndCells ks[i] v∧Kd w (fun k=>D k∧k≠g) ks[i].kids v)∧
 ∀ {w':Aa} {t:Nd} {v:Ba} {D':Nat→Prop},w.grownBy w' (some g)→Blk w' g e (l.take (i*9)++ndCells t v++l.drop (i*9+(ndCells t v).length))→(∀ b,D b→D' b)→Kd w' (fun k=>D' k∧k≠g) t.kids v→OwnK e D' base w' (ks.set i t) (.slice (some ⟨g,0,none⟩) (ks.set i t).length c):=by
 obtain ⟨xs,ho,hX,hD⟩:=h;obtain ⟨g,c,l,rfl,hge,hB,hmc,hlen,htk,hre⟩:=Wyb ho O;have hg:=hD g rfl;have hfit:i*9+9≤l.length:=by rw [hlen];have:=Nat.mul_le_mul_right 9 hmc;omega
 have hX1:KRow w (fun k=>D k∧k≠g) ks xs:=hX.mono fun k hk _=>⟨hk.1,fun he=>hk.2 (by rw [he];rfl)⟩;obtain ⟨u,hu,hku⟩:=Wyc hX1 hi;refine ⟨g,c,l,rfl,hB,hfit,hg,hge,⟨u,?_,hku⟩,fun {w' t v D'} hw hB' hDD hK=>?_⟩;rw [← hu,← htk,List.drop_take,List.take_take];congr 1;omega;have e9:(ndCells t v).length=9:=Jj _ _;rw [e9] at hB'
 have e0:(l.take (i*9)++ndCells t v++l.drop (i*9+9)).length=c*9:=by
  rw [Aca,Aca,Aqa,Aha,e9];omega
 have ho':=hre w' _ hB' e0
 have et:(l.take (i*9)++ndCells t v++l.drop (i*9+9)).take (ks.length*9)=xs.take (i*9)++ndCells t v++xs.drop (i*9+9):=by
  rw [← htk,List.take_append,Aca,Aqa,e9,Apa (by rw [Aca,Aqa,e9];omega),List.take_take,List.drop_take,show min (i*9) l.length=i*9 by omega,show min (i*9) (ks.length*9)=i*9 by omega]
 rw [et] at ho';refine ⟨_,by rw [List.length_set];exact ho',?_,fun b hb=>by injection hb with hb;exact hb▸hDD g hg⟩;exact Qbd (D:=fun k=>D k∧k≠g) (fun b hb hlt=>⟨hDD b hb.1,fun he=>hb.2 (by injection he)⟩) (fun b hb hlt=>hw.block b hlt fun he=>hb.2 (by injection he)) (hK.mono fun k hk _=>⟨hk.1,fun he=>hk.2 (by injection he)⟩) hX1 hi
def occB(s:List UInt8)(t:Nd):Bool:=(listN t).any fun x=>decide (x.text=s)
theorem Qee(s:List UInt8)(t:Nd)(v:Ba)(D:Nat→Prop)(w:Aa)(hkD:Kd w D t.kids v)(hc:count t≤1000000):Ret PP 22 #[ndV t v,Str s] w fun r w'=>r = .bool (occB s t)∧G w w':=by
 obtain ⟨n0,hn0⟩:∃ n,n=w.heap.size:=⟨_,rfl⟩;have hk:Kd w (fun k=>k<n0) t.kids v:=Kd.mono hkD fun k _ h=>by rw [hn0];exact h
 obtain ⟨p,c,rfl,_⟩:=id hk;have g:=G.refl w;refine Vo (m:=22) Tryz.func22 J J [(0,True,_),(1,True,_)] (Za J (Za J (Zr _))) ?_;refine Zj (Zl (Zda J (Zd J) J ?_));intro b2 w2 N2;have l2:=N2.ge g;have nat2:=N2.at_;have g:=g.trans (N2.g);try have hk:=hk.grow (N2.g)
 try have hk8:=hk8.grow (N2.g)
 try have hcell:=hcell.grow (N2.g)
 have E:=(Qp _).new N2;refine Yr J (Ze (kq (Zj (Zl (Wm Zf J J E.g0.row (Xm J (Zu Xfb Xy (aqc J aq0) J) (Wvd t _ _ _ hk hc) ?_))))));rintro v8 w8 ⟨hk8,g8⟩;refine ⟨fun _=>g8,?_⟩;have g:=g.trans (g8);replace E:=E.grow (g8);try have hk:=hk.grow (g8)
 try have hk8:=hk8.grow (g8)
 try have hcell:=hcell.grow (g8)
 obtain ⟨p8,c8,rfl,_⟩:=id hk8;have hln:=Ybb t;refine Yr J (Ze (kq (Zj (Zj (Zl (Yr J (Ze (kq (Yx (Vv (fun (i:Nat) u1=>(i≤(listN t).length∧∀ j,(h:j<(listN t).length)→j<i→(listN t)[j].text≠s)∧G w8 u1) [(1,True,_),(5,True,_)] (fun (i:Nat)=>[(6,True,.int .i64 i)]) (fun (i:Nat)=>(listN t).length-i) (0) ⟨⟨Ara _,fun j _ hj=>absurd hj (Nat.not_lt_zero j)⟩,G.refl _⟩ (Za J (Za J (Za J (Zr _)))) ?_))))))))));rintro i u1 ⟨hI1,gl1⟩;have g:=g.trans gl1;replace E:=E.grow gl1;have hk8:=hk8.grow gl1;refine Zj (Zj (Zl (Zv J (Zv J (Zz J (fun _=>Ysa Zc (Zd J)) (Uua J J (Ze (kq (Wz J (fun h1=>?_) (fun h1=>?_))))))))));replace h1:i<(listN t).length:=by simp only [Wpg] at h1;omega
 obtain ⟨e0,p1,c1,hcell,_⟩:=Yq (t:=lT (listN t)) hk8 (i:=i) h1;have eL:Zb (lT (listN t)) i=(listN t)[i]:=Yz (t:=lT (listN t)) h1;rw [eL] at hcell;refine Yw (kq (Zj (Yx (Zj (Zl (Zv J (Zv J (Zz J (fun _=>Yv Zc (Zd J) (Zd J) (fun _=>O) (fun _=>e0)) (Xg Xe J (Xl Yy J (hcell.one (i:=1) J) (Zv J (Wgd J J (Ze (kq (Wz J (fun h2=>?_) (fun h2=>?_))))))))))))))));replace h2:(listN t)[i].text=s:=by simpa using h2
 refine Zj (Zl (Yr J (Ze (kq (Xo (Wj J J ?_))))));refine ⟨Wog ?_,g⟩;rw [eq_comm,occB,List.any_eq_true];exact ⟨_,Aaa h1,Wng h2⟩;replace h2:(listN t)[i].text≠s:=by simpa using h2
 refine Yw (kq (Zl (Zv J (Zz J (fun _=>Ukb (Zd J) Xa (fun _=>O)) (Yr J (Wx [(6,_,_),(1,_,_),(5,_,_)] (Za J (Za J (Za J (Zr _)))) (Ze (fun a ha=>?_))))))));refine ⟨i+1,ha,⟨⟨h1,fun j hj hji=>?_⟩,gl1⟩,O⟩;by_cases e:j=i;subst e;exact h2;exact hI1.2 j hj O;replace h1:¬ i<(listN t).length:=by simp only [Wqg] at h1;omega
 refine Xea J (kq (Zj (Zl (Yr J (Ze (kq (Xo (Wj J J ?_))))))));refine ⟨Wog ?_,g⟩;rw [eq_comm,occB,List.any_eq_false];intro x hx;obtain ⟨j,hj,rfl⟩:=List.getElem_of_mem hx;simpa using hI1.2 j hj O
def unuN:List UInt8:=[117,110,117,115,101,100]
def unD:Nd:=.mk 6 unuN 0 0 [.mk 7 [105,110,116] 0 0 [] ty0 0 0,.mk 9 [] 0 0 [] ty0 0 0] ty0 0 0
def insL:List (Int→Nd×Int)→List Nd→Int→List Nd×Int
 | fn::fs,t::ts,k=>bif decide (0≤k) then ((fn k).1::(insL fs ts (fn k).2).1,(insL fs ts (fn k).2).2) else (t::ts,k)
 | _,ts,k=>(ts,k)
def insT(t:Nd):Int→Nd×Int:=para (fun t l k =>
 bif decide (t.kind=10)&&decide (k=0) then (.mk t.kind t.text t.num t.pos (unD::t.kids) t.ty t.ref t.up,-1)
 else let r:=insL l t.kids (bif decide (t.kind=10) then k-1 else k);(.mk t.kind t.text t.num t.pos r.1 t.ty t.ref t.up,r.2)) t
theorem Zac(t:Nd)(k:Int):insT t k=bif decide (t.kind=10)&&decide (k=0) then (.mk t.kind t.text t.num t.pos (unD::t.kids) t.ty t.ref t.up,-1)
 else (.mk t.kind t.text t.num t.pos (insL (t.kids.map insT) t.kids (bif decide (t.kind=10) then k-1 else k)).1 t.ty t.ref t.up,(insL (t.kids.map insT) t.kids (bif decide (t.kind=10) then k-1 else k)).2):=congrFun (Zla _ t) k
def uB(s:List UInt8):Bool:=decide (s=unuN)
theorem Qcd:∀ (l:List Nd) (k:Int),(insL (l.map insT) l k).1.length=l.length
 | [],_=>rfl
 | t::l,k=>by
  rw [Afa,insL];cases decide (0≤k);rfl;show ((insT t k).1::_).length=_;rw [List.length_cons,Qcd l];rfl
theorem Wre{R:Nd→Nd→Prop}:∀ (l:List Nd) (k:Int),(∀ t∈l,R t t)→(∀ t∈l,∀ k,0≤k→R t (insT t k).1)→∀ i (h:i<l.length) (h':i<(insL (l.map insT) l k).1.length),R l[i] (insL (l.map insT) l k).1[i]
 | [],_,_,_,i,h,_=>by cases h
 | t::l,k,h0,h1,i,h,h'=>by
  have e:insL ((t::l).map insT) (t::l) k=bif decide (0≤k) then ((insT t k).1::(insL (l.map insT) l (insT t k).2).1,(insL (l.map insT) l (insT t k).2).2) else (t::l,k):=rfl;cases hk:decide (0≤k);rw [hk] at e;have e:insL ((t::l).map insT) (t::l) k=(t::l,k):=e;simp only [e];exact h0 _ (Aaa h);rw [hk] at e;have e:insL ((t::l).map insT) (t::l) k=((insT t k).1::(insL (l.map insT) l (insT t k).2).1,(insL (l.map insT) l (insT t k).2).2):=e;simp only [e]
  match i,h with
  | 0,_=>exact h1 t Aia k (Wrg hk)
  | i+1,h =>
   simp only [List.getElem_cons_succ];exact Wre l _ (fun t ht=>h0 t (Ada _ ht)) (fun t ht=>h1 t (Ada _ ht)) i (by simpa using h) _
theorem Qdd:∀ t,(∀ y∈listN t,uB y.text=false)→InR uB t t:=by
 refine Nd.ind fun t ih h=>.nd (Hq.refl t) (h t (by rw [Xla];exact Aia)) J fun i hi=>?_;rw [Yz hi];exact ih _ (Aaa hi) fun y hy=>h y (by rw [Xla];exact Ada _ (Aka.2 ⟨_,Aaa hi,hy⟩))
theorem Zkg{t:Nd}{ks:List Nd}(h:t.kind=10∨ks.length=t.kids.length):Hq t (.mk t.kind t.text t.num t.pos ks t.ty t.ref t.up):=by
 refine ⟨rfl,rfl,?_⟩;rcases h with h|h;have e:∀ x:Nd,x.kind=10→ofF x=(ty0,false):=fun x hx=>by unfold ofF;rw [hx];cases (!leafB x) <;> rfl
 rw [e t h];exact e _ h;unfold ofF leafB;rw [show (Nd.mk t.kind t.text t.num t.pos ks t.ty t.ref t.up).kids.length=t.kids.length from h];rfl
theorem Wbg:∀ t,(∀ y∈listN t,uB y.text=false)→∀ k,InR uB t (insT t k).1:=by
 refine Nd.ind fun t ih h k=>?_;have hu:=h t (by rw [Xla];exact Aia);have hkid:∀ s∈t.kids,∀ y∈listN s,uB y.text=false:=fun s hs y hy=>h y (by rw [Xla];exact Ada _ (Aka.2 ⟨_,hs,hy⟩));rw [Zac];cases h0:decide (t.kind=10)&&decide (k=0);simp only [Wtg];have hl:=Qcd t.kids (bif decide (t.kind=10) then k-1 else k);refine .nd (Zkg (.inr hl)) hu hl fun i hi=>?_;have hi':i<(insL (t.kids.map insT) t.kids (bif decide (t.kind=10) then k-1 else k)).1.length:=by rw [hl];exact hi
 have q:=Wre (R:=InR uB) t.kids (bif decide (t.kind=10) then k-1 else k) (fun s hs=>Qdd s (hkid s hs)) (fun s hs j _=>ih s hs (hkid s hs) j) i hi hi';rw [Yz hi,Yz (t:=.mk t.kind t.text t.num t.pos (insL (t.kids.map insT) t.kids (bif decide (t.kind=10) then k-1 else k)).1 t.ty t.ref t.up) hi'];exact q;have ht:=Wrg (Bool.and_eq_true_iff.1 h0).1;have e1:uB unuN=true:=by decide
 have e2:Ux (ofF (.mk 7 [105,110,116] 0 0 [] ty0 0 0)).1=true:=by decide +kernel
 refine .bl (Zkg (.inl ht)) hu ht ⟨rfl,e1,rfl,e2,rfl⟩ rfl fun i hi=>?_;have e:Zb (.mk t.kind t.text t.num t.pos (unD::t.kids) t.ty t.ref t.up) (i+1)=Zb t i:=rfl;show InR uB (Zb t i) (Zb (.mk t.kind t.text t.num t.pos (unD::t.kids) t.ty t.ref t.up) (i+1));rw [e,Yz hi];exact Qdd _ (hkid _ (Aaa hi))
def insA(l:List Nd)(k:Int):Nat→List Nd×Int
 | 0=>([],k)
 | i+1=>bif decide (0≤(insA l k i).2) then ((insA l k i).1++[(insT (l.getD i nd0) (insA l k i).2).1],(insT (l.getD i nd0) (insA l k i).2).2) else ((insA l k i).1++[l.getD i nd0],(insA l k i).2)
theorem Zbd(t:Nd)(l:List Nd)(k:Int):∀ i,insA (t::l) k (i+1)=bif decide (0≤k) then ((insT t k).1::(insA l (insT t k).2 i).1,(insA l (insT t k).2 i).2) else (t::(insA l k i).1,(insA l k i).2)
 | 0=>by
  show (bif decide (0≤k) then ([]++[(insT t k).1],(insT t k).2) else ([]++[t],k))=_;cases decide (0≤k) <;> rfl
 | i+1=>by
  rw [insA,Zbd t l k i];cases h:decide (0≤k);simp only [Wtg,insA];cases decide (0≤(insA l k i).2) <;> rfl
  simp only [Wug,insA];cases decide (0≤(insA l (insT t k).2 i).2) <;> rfl
theorem Qed:∀ (l:List Nd) (k:Int),¬ 0≤k→∀ i,i≤l.length→insA l k i=(l.take i,k)
 | l,k,h,0,_=>by rw [Ama];rfl
 | l,k,h,i+1,hi=>by
  rw [insA,Qed l k h i O,Wmg h];show (_++[l.getD i nd0],k)=_;rw [Asa,Ata (show i<l.length by omega),Axa (show i<l.length by omega)];rfl
theorem Uxc:∀ (l:List Nd) (k:Int),insA l k l.length=insL (l.map insT) l k
 | [],k=>rfl
 | t::l,k=>by
  rw [List.length_cons,Zbd,Afa,insL];cases h:decide (0≤k);simp only [Wtg];rw [Qed l k (Wsg h) _ (Aba _),List.take_length];simp only [Wug];rw [Uxc l]
theorem Qna(l:List Nd)(k:Int):∀ i,(insA l k i).1.length=i
 | 0=>rfl
 | i+1=>by
  rw [insA];cases decide (0≤(insA l k i).2);show ((insA l k i).1++[_]).length=_;rw [Aca,Qna l k i];rfl;show ((insA l k i).1++[_]).length=_;rw [Aca,Qna l k i];rfl
theorem Zcd{l:List Nd}{k:Int}{i:Nat}(h:¬ 0≤(insA l k i).2):∀ j,i+j≤l.length→insA l k (i+j)=((insA l k i).1++(l.drop i).take j,(insA l k i).2)
 | 0,_=>by rw [Ama,Aga];rfl
 | j+1,hj=>by
  rw [← Nat.add_assoc,insA,Zcd h j O,Wmg h];show (_++[l.getD (i+j) nd0],_)=_;rw [Aea];congr 2;rw [Asa,Ata (show i+j<l.length by omega),Axa (show j<(l.drop i).length by rw [Aha];omega),List.getElem_drop];rfl
def insK(l:List Nd)(k:Int)(i:Nat):List Nd:=(insA l k i).1++l.drop i
theorem Wnb(l:List Nd)(k:Int){i:Nat}(h:i≤l.length):(insK l k i).length=l.length:=by
 unfold insK;rw [Aca,Qna,Aha];omega
theorem Wse{l:List Nd}{k:Int}{i:Nat}(h:i<l.length):(insK l k i)[i]'(by rw [Wnb l k (Nat.le_of_lt h)];exact h)=l[i]:=by
 unfold insK;rw [List.getElem_append_right (by rw [Qna];exact Aba _)];rw [List.getElem_drop];congr 1;rw [Qna];omega
theorem Veb{l:List Nd}{k:Int}{i:Nat}(h:i<l.length)(hk:0≤(insA l k i).2):insA l k (i+1)=((insA l k i).1++[(insT l[i] (insA l k i).2).1],(insT l[i] (insA l k i).2).2):=by
 rw [insA,Wng hk,Asa,Ata h];rfl
theorem Zdd{l:List Nd}{k:Int}{i:Nat}(h:i<l.length)(hk:0≤(insA l k i).2):(insK l k i).set i (insT l[i] (insA l k i).2).1=insK l k (i+1):=by
 unfold insK;rw [Veb h hk,List.set_append_right _ _ (by rw [Qna];exact Aba _),Qna,Nat.sub_self,List.drop_eq_getElem_cons h,List.set_cons_zero,Aea];rfl
theorem Qfd{l:List Nd}{k:Int}{i:Nat}(hi:i≤l.length)(h:i=l.length∨¬ 0≤(insA l k i).2):insL (l.map insT) l k=(insK l k i,(insA l k i).2):=by
 rw [← Uxc];rcases h with rfl|h;unfold insK;rw [List.drop_length,Aga];have:=Zcd h (l.length-i) O;rw [show i+(l.length-i)=l.length by omega] at this;rw [this,insK];rw [Apa (by rw [Aha];omega)]
theorem Wcd{l:List Nd}(hT:∀ t∈l,∀ k,0≤k→-1≤(insT t k).2∧(insT t k).2≤k){k:Int}(hk : -1≤k):∀ i,i≤l.length→-1≤(insA l k i).2∧(insA l k i).2≤k
 | 0,_=>⟨hk,Aua _⟩
 | i+1,hi=>by
  obtain ⟨h1,h2⟩:=Wcd hT hk i O;by_cases h:0≤(insA l k i).2;rw [Veb O h];have:=hT l[i] (Aaa O) _ h;exact ⟨this.1,by show (insT _ _).2≤k;omega⟩;rw [insA,Wmg h];exact ⟨h1,h2⟩
theorem Jof:∀ t k,0≤k→-1≤(insT t k).2∧(insT t k).2≤k:=by
 refine Nd.ind fun t ih k hk=>?_;rw [Zac];cases h0:decide (t.kind=10)&&decide (k=0);simp only [Wtg];rw [← Uxc]
 have h1 : -1≤(bif decide (t.kind=10) then k-1 else k)∧(bif decide (t.kind=10) then k-1 else k)≤k:=by
  cases decide (t.kind=10);exact ⟨by show -1≤k;omega,Aua _⟩;exact ⟨by show -1≤k-1;omega,by show k-1≤k;omega⟩
 have:=Wcd (l:=t.kids) (fun s hs j hj=>ih s hs j hj) h1.1 _ (Aba _);exact ⟨this.1,Int.le_trans this.2 h1.2⟩;exact ⟨Aua _,by show -1≤k;omega⟩
theorem Wcg{t:Nd}{k:Int}(h1:t.kind=10)(h2:k=0):insT t k=(.mk t.kind t.text t.num t.pos (unD::t.kids) t.ty t.ref t.up,-1):=by rw [Zac,Wng h1,Wng h2];rfl
theorem Wtf{t:Nd}{k K:Int}(h0:¬ (t.kind=10∧k=0))(h:K=bif decide (t.kind=10) then k-1 else k):insT t k=(.mk t.kind t.text t.num t.pos (insL (t.kids.map insT) t.kids K).1 t.ty t.ref t.up,(insL (t.kids.map insT) t.kids K).2):=by
 rw [Zac,h]
 have e:(decide (t.kind=10)&&decide (k=0))=false:=by
  cases h1:decide (t.kind=10);rfl;rw [Wmg (fun h2=>h0 ⟨Wrg h1,h2⟩)];rfl
 rw [e];rfl
theorem Qfe:∀ (t:Nd) (v:Ba) (D:Nat→Prop) (w:Aa) (k:Int),Kd w D t.kids v→count t≤1000000→0≤k→k≤1000→Ret PP 23 #[ndV t v,.int .i64 k,Str unuN] w fun r w'=>(∃ u,r = .tuple #[ndV (insT t k).1 u,.int .i64 (insT t k).2]∧Kd w' (fun j=>(D j∧j<w.heap.size)∨w.heap.size≤j) (insT t k).1.kids u)∧G w w':=by
 refine Nd.ind fun t ih v D w k hkD hc hk0 hk1=>?_;obtain ⟨n0,hn0⟩:∃ n,n=w.heap.size:=⟨_,rfl⟩;have hk:Kd w (fun k=>D k∧k<n0) t.kids v:=Kd.mono hkD fun k hd h=>⟨hd,by rw [hn0];exact h⟩;obtain ⟨p,c,rfl,_⟩:=id hk;have hlen:=Wn t;have hbd:=fun i hi K hK=>Wcd (l:=t.kids) (fun s hs j hj=>Jof s j hj) (k:=K) hK i hi;have g:=G.refl w;refine Vo (m:=61) Tryz.func23 J J [(0,True,_),(1,True,_),(2,True,_)] (Za J (Za J (Za J (Zr _)))) ?_;refine Zj (Zl (Zda J (Zd J) J ?_));intro b3 w3 N3;have l3:=N3.ge g;have nat3:=N3.at_;have nsz3:=N3.size;have gsz3:=g.size;have g:=g.trans (N3.g);try have hk:=hk.grow (N3.g)
 try have hO:=hO.grow (N3.g)
 have E:=(Qp _).new N3;refine Xc J Zs J ?_;intro b6 w6 N6;have l6:=N6.ge g;have nat6:=N6.at_;have nsz6:=N6.size;have gsz6:=g.size;have g:=g.trans (N6.g);try have hk:=hk.grow (N6.g)
 try have hO:=hO.grow (N6.g)
 replace E:=E.new N6;refine Yr J (Ze (kq (Zj (Zj (Zl (Xg Xi J (Xl Yf J (E.g1.at_ J) (Zea J J (Ze (kq (Wz J (fun h1=>?_) (fun h1=>?_))))))))))));replace h1:t.kind=10:=Wrg h1;refine Zj (Zj (Zl (Zv J (Zea J J (Ze (kq (Wz J (fun h2=>?_) (fun h2=>?_))))))));replace h2:k=0:=Wrg h2;refine Zj (Zl (Zv J (Zz J (fun _=>Uv [_,_,_,_,_,_,_,_,_] Zs J Zta (Wi Xa (Wi Xa (Vj))) J) (Zz J (fun _=>Uv [_,_,_,_,_,_,_,_,_] Zs J Zta (Wi Xa (Vj)) J) (Yc [_,_,_,_,_,_,_,_,_,_,_,_,_,_,_,_,_,_] J Zc Zs (Wi (Zd J) (Wi (Zd J) (Vj))) J J ?_)))));intro b19 w19 N19;have l19:=N19.ge g;have nat19:=N19.at_;have nsz19:=N19.size;have gsz19:=g.size;have g:=g.trans (N19.g);try have hk:=hk.grow (N19.g)
 try have hO:=hO.grow (N19.g)
 replace E:=E.new N19;refine Zz J (fun _=>Uv [_,_,_,_,_,_,_,_,_] Zs J Zta (Wi Xa (Wi (Zd J) (Wi (Zd J) (Vj)))) J) (Xc J Zs J ?_);intro b8 w8 N8;have l8:=N8.ge g;have nat8:=N8.at_;have nsz8:=N8.size;have gsz8:=g.size;have g:=g.trans (N8.g);try have hk:=hk.grow (N8.g)
 try have hO:=hO.grow (N8.g)
 replace E:=E.new N8;refine Xq J Yj (Zd J) (Zd J) J J E.g0 J J ?_;intro wS1 hgS1 hzS1 BS;replace E:=E.s0 hgS1 BS;have g:=Jf g hgS1 (by intro k hk;injection hk with hk;omega);try have hk:=hk.keep hgS1 (fun k hk _ e=>by injection e with e;omega)
 try have hO:=hO.keep hgS1 (by rintro ⟨_,h,h'⟩;omega)
 refine Ze (kq (Zj (Zl (Wm Zf J J E.g0.row (Yc [_,_,_,_,_,_,_,_,_] J Zc Zs (Wi (Zd J) (Vj)) J J ?_)))));intro b22 w22 N22;have l22:=N22.ge g;have nat22:=N22.at_;have nsz22:=N22.size;have gsz22:=g.size;have B22:=N22.blk;have g:=g.trans (N22.g);replace E:=E.grow (N22.g);try have hk:=hk.grow (N22.g)
 try have hO:=hO.grow (N22.g)
 refine Xg Zh J (Xl Zg J (E.g3.at_ J) (?_));have kd19:Kd w22 (fun k=>(((D k∧k<n0)∨n0≤k)∧k≠b3∧k≠b6)∧k≠b22) unD.kids (.slice (some ⟨b19,0,none⟩) 2 2):=⟨_,_,rfl,Aba _,fun _=>⟨_,_,rfl,⟨⟨.inr O,O,O⟩,O⟩,_,E.g1.row,Uo (t:=.mk 7 [105,110,116] 0 0 [] ty0 0 0) (Qab _ _) (Vd (t:=.mk 9 [] 0 0 [] ty0 0 0) (Qab _ _))⟩⟩;have hO1:=Vbc (t:=unD) (base:=n0) (D:=fun k=>((D k∧k<n0)∨n0≤k)∧k≠b3∧k≠b6) N22.blk O kd19 ⟨.inr O,O,O⟩;refine Uwc (ks:=[unD]) J Zc Zs J (Zd J) hO1 (Aba _) (Zd J) hk (fun j hj=>⟨⟨.inl hj,O,O⟩,O⟩) (by simp;omega) O ⟨.inr O,O,O⟩ ?_;intro a25 c25 w25 hO hg25 hb22;replace E:=E.keep hg25 (by simp;omega);have g:=Jf g hg25 (by intro k hk;injection hk with hk;omega);clear hk;refine Xg Zh J (Xr J Vb (Zd J) (Zd J) J E.g3 J J ?_);intro wS2 hgS2 hzS2 BS;replace E:=E.s3 hgS2 BS;have g:=Jf g hgS2 (by intro k hk;injection hk with hk;omega);try have hk:=hk.keep hgS2 (fun k hk _ e=>by injection e with e;omega)
 try have hO:=hO.keep hgS2 (by rintro ⟨_,h,h'⟩;omega)
 refine Ze (kq (Zj (Zl (Wm Zf J J E.g3.row (Xq J Yj (Zd J) (Zd J) J J E.g2 J J ?_)))));intro wS3 hgS3 hzS3 BS;replace E:=E.s2 hgS3 BS;have g:=Jf g hgS3 (by intro k hk;injection hk with hk;omega);try have hk:=hk.keep hgS3 (fun k hk _ e=>by injection e with e;omega)
 try have hO:=hO.keep hgS3 (by rintro ⟨_,h,h'⟩;omega)
 refine Yr J (Ze (kq (Xo (Yua (rs:=[.cell 6 26,.tmp 7]) (vs:=[_,_]) J J (Zra J Zf J (E.g2.row) (Jna J (Ub))) J ?_))));rw [Wcg h1 h2];exact ⟨⟨_,rfl,hO.kd fun k hk=>by rw [← hn0];exact hk.1⟩,g⟩;replace h2:k≠0:=Wsg h2;obtain ⟨K,hK⟩:∃ K,K=k-1:=⟨_,rfl⟩;have hKK:K=bif decide (t.kind=10) then k-1 else k:=by rw [Wng h1,hK];rfl
 have hno:¬ (t.kind=10∧k=0):=fun h=>h2 h.2;have hk0:0≤K:=by omega
 have hk1:K≤1000:=by omega
 refine Yw (kq (Zl (Zv J (Zz J (fun _=>Yge (r:=K) (Zd J) Xa (fun hc=>(by rw [hK,Wfc ⟨O,O⟩]))) (Yr J (Ze (kq (Zj (Zl (Jjc J Zc ?_))))))))));intro b42 w42 e42 ho42 g42;have gsz42:=g.size;have hlt42:=E.ltm (X:=[b3,b6]) Os;have q3:=hlt42 b3 Os;have q6:=hlt42 b6 Os;replace E:=E.grow g42;have hk:=hk.grow g42;have g:=g.trans g42;have gz42:=g42.size;refine Xg Zh J (Xl Zg J (E.g1.at_ J) (Xgc (D:=fun k=>((D k∧k<n0)∨n0≤k)∧k≠b3∧k≠b6) J Zc Zs J (Zd J) (ho42 n0 O) ⟨.inr O,O,O⟩ (Zd J) hk (fun j hj=>⟨⟨.inl hj,O,O⟩,O⟩) O O ⟨.inr O,O,O⟩ ?_));intro a45 c45 w45 hO hg45 hb42;replace E:=E.keep hg45 (by simp;omega);have g:=Jf g hg45 (by intro k hk;injection hk with hk;omega);have hO:OwnK 26 (fun k=>((D k∧k<n0)∨n0≤k)∧k≠b3∧k≠b6) n0 w45 (insK t.kids K 0) (.slice a45 t.kids.length c45):=hO;clear hk;refine Yr J (Ze (kq (Zj (Zj (Zl (Yr J (Ze (kq (Yx (?_))))))))));have hnd1:=E.1;refine Uy (fun (i:Nat) u1=>(i≤t.kids.length∧OwnK 26 (fun k=>((D k∧k<n0)∨n0≤k)∧k≠b3∧k≠b6) n0 u1 (insK t.kids K i) (.slice a45 t.kids.length c45))∧G w u1) _ [(2,True,_),(3,True,_),(6,True,_),(7,True,_),(9,True,_)] (fun (i:Nat)=>[(10,True,.int .i64 i),(1,True,.int .i64 (insA t.kids K i).2)]) (fun (i:Nat)=>t.kids.length-i) (0) ⟨⟨Ara _,hO⟩,g⟩ (Yb (blkE E.g1) (Yb (blkE E.g0) (Wd _))) (Za J (Za J (Za J (Za J (Za J (Za J (Za J (Zr _)))))))) ?_;clear E;rintro i u1 ⟨hI1,gl1⟩ ⟨B3,B6,_⟩;replace B3:Blk _ _ _ _:=B3;replace B6:Blk _ _ _ _:=B6;have g:=gl1;clear hO;obtain ⟨hi,hO⟩:=hI1;have hbi:=hbd i hi K O
 have E:=Vma (L:=[(b6,_,_),(b3,_,_)]) hnd1 ⟨B6,B3,trivial⟩ rfl;refine Zj (Zj (Zl (Zv J (Zv J (Zz J (fun _=>Ysa Zc (Zd J)) (Uua J J (Zv J (Zk J J J (fun _=>Zw (Zd J)) (Zk J J J (fun _=>Qmc (Zp J id) Xa) (Zz J (fun _=>Yn (Zd J) (Zp J id)) (Ze (kq (Wz J (fun h3=>?_) (fun h3=>?_))))))))))))));rw [Ala,Wpg,Wpg] at h3;have h2:i<t.kids.length:=by omega
 have hA:=h3.2;have hkl:=Wnb t.kids K hi;obtain ⟨gg,cc,l,es,hB,hfit,_,_,⟨u,hu,hku⟩,_⟩:=hO.seti (i:=i) (by rw [hkl];exact h2);injection es with e1 _ e3;subst e1 e3;rw [Wse h2] at hu hku;have hcell:=hB.row.part (i*9) 9;rw [hu] at hcell;have hck:=Jk h2;have hgl:=hB.lt;have gsz:=g.size;have q3:=E.ltm (X:=[b3,b6]) Os b3 Os;have q6:=E.ltm (X:=[b3,b6]) Os b6 Os;refine Yw (kq (Zj (Yx (Zl (Zv J (Zv J (Zv J (Zv J (Zz J (fun _=>Yv Zc (Zd J) (Zd J) (fun _=>O) (fun _=>J)) (Wm Zf J J hcell (Zv J (Zv J (Xm J (Zu Jha Xy (aqc J (aqc J (aqc J aq0))) J) (ih _ (Aaa h2) _ _ _ _ hku O hA O) ?_)))))))))))));rintro v53 w53 ⟨⟨u53,rfl,k53⟩,g53⟩;refine ⟨fun _=>g53,?_⟩;have g:=g.trans (g53);replace E:=E.grow (g53);try have hk:=hk.grow (g53)
 try have hO:=hO.grow (g53)
 obtain ⟨p53,c53,rfl,_⟩:=id k53;obtain ⟨g2,c2,l2,es2,hB2,hfit2,hDg2,hge2,_,hset⟩:=hO.seti (i:=i) (by rw [hkl];exact h2);injection es2 with e1 _ e3;injection e1 with e1;injection e1 with e1;subst e1 e3;refine Zv J (Qo J J (Qo J J (Zz J (fun _=>Yv Zc (Zd J) (Zd J) (fun _=>O) (fun _=>J)) (Xn J Yj (Zd J) (Zd J) J J hB2 (by rw [Nat.ble_eq];show 0+i*9+9≤l2.length;omega) J ?_))));intro w61 hg61 hz61 B61;have hg61:World.grownBy _ w61 (some gg):=hg61;have n3:=hDg2.2.1;have n6:=hDg2.2.2;have B61:Blk w61 gg 26 (l2.take (0+i*9)++ndCells (insT t.kids[i] (insA t.kids K i).2).1 (.slice p53 (insT t.kids[i] (insA t.kids K i).2).1.kids.length c53)++l2.drop (0+i*9+(ndCells (insT t.kids[i] (insA t.kids K i).2).1 (.slice p53 (insT t.kids[i] (insA t.kids K i).2).1.kids.length c53)).length)):=B61;rw [Aoa] at B61;have hO:=hset hg61 B61 (D':=fun k=>((D k∧k<n0)∨n0≤k)∧k≠b3∧k≠b6) (fun _ h=>h) ((k53.keep hg61 (fun k hk _ e=>by injection e with e;rcases hk with hk|hk;exact hk.1.2 e;omega)).mono fun k hk _=>by rcases hk with hk|hk;exact hk.1;exact ⟨⟨.inr O,O,O⟩,O⟩);rw [Zdd h2 hA,Wnb t.kids K h2] at hO;replace E:=E.keep hg61 (by simp;omega);have g:=Jf g hg61 (by intro k hk;injection hk with hk;omega);have hAn:=Veb h2 hA;refine Yr J (Ze (kq (Zl (Zv J (Zz J (fun _=>Ukb (Zd J) Xa (fun _=>O)) (Yr J (Wx [(10,_,_),(1,_,_),(2,_,_),(3,_,_),(6,_,_),(7,_,_),(9,_,_)] (Za J (Za J (Za J (Za J (Za J (Za J (Za J (Zr _)))))))) (Ze (fun a ha=>?_)))))))));exact ⟨i+1,by rw [hAn];exact ha,⟨⟨h2,hO⟩,g⟩,(Yb (blkE E.g1) (Yb (blkE E.g0) (Wd _))),O⟩
 have hstop:i=t.kids.length∨¬ 0≤(insA t.kids K i).2:=by rw [Aya,Wqg,Wqg] at h3;omega
 refine Xea J (kq (Zj (Zl (Zv J (Xg Zh J (Xr J Vb (Zd J) (Zd J) J E.g1 J J ?_))))));intro wS5 hgS5 hzS5 BS;replace E:=E.s1 hgS5 BS;have g:=Jf g hgS5 (by intro k hk;injection hk with hk;omega);try have hk:=hk.keep hgS5 (fun k hk _ e=>by injection e with e;omega)
 try have hO:=hO.keep hgS5 (by rintro ⟨_,h,h'⟩;omega)
 refine Ze (kq (Zj (Zl (Wm Zf J J E.g1.row (Zv J (Xq J Yj (Zd J) (Zd J) J J E.g0 J J ?_))))));intro wS6 hgS6 hzS6 BS;replace E:=E.s0 hgS6 BS;have g:=Jf g hgS6 (by intro k hk;injection hk with hk;omega);try have hk:=hk.keep hgS6 (fun k hk _ e=>by injection e with e;omega)
 try have hO:=hO.keep hgS6 (by rintro ⟨_,h,h'⟩;omega)
 refine Yr J (Ze (kq (Xo (Yua (rs:=[.cell 6 26,.tmp 7]) (vs:=[_,_]) J J (Zra J Zf J (E.g0.row) (Jna J (Ub))) J ?_))));rw [Wtf hno hKK,Qfd hi hstop];exact ⟨⟨_,rfl,hO.kd fun k hk=>by rw [← hn0];exact hk.1⟩,g⟩;replace h1:t.kind≠10:=Wsg h1;generalize hKe:k=K;have hKK:K=bif decide (t.kind=10) then K-1 else K:=by rw [Wmg h1];rfl
 have hno:¬ (t.kind=10∧K=0):=fun h=>h1 h.1;refine Yw (kq (Zj (Zl (Jjc J Zc ?_))));intro b42 w42 e42 ho42 g42;have gsz42:=g.size;have hlt42:=E.ltm (X:=[b3,b6]) Os;have q3:=hlt42 b3 Os;have q6:=hlt42 b6 Os;replace E:=E.grow g42;have hk:=hk.grow g42;have g:=g.trans g42;have gz42:=g42.size;refine Xg Zh J (Xl Zg J (E.g1.at_ J) (Xgc (D:=fun k=>((D k∧k<n0)∨n0≤k)∧k≠b3∧k≠b6) J Zc Zs J (Zd J) (ho42 n0 O) ⟨.inr O,O,O⟩ (Zd J) hk (fun j hj=>⟨⟨.inl hj,O,O⟩,O⟩) O O ⟨.inr O,O,O⟩ ?_));intro a45 c45 w45 hO hg45 hb42;replace E:=E.keep hg45 (by simp;omega);have g:=Jf g hg45 (by intro k hk;injection hk with hk;omega);have hO:OwnK 26 (fun k=>((D k∧k<n0)∨n0≤k)∧k≠b3∧k≠b6) n0 w45 (insK t.kids K 0) (.slice a45 t.kids.length c45):=hO;clear hk;refine Yr J (Ze (kq (Zj (Zj (Zl (Yr J (Ze (kq (Yx (?_))))))))));have hnd2:=E.1;refine Uy (fun (i:Nat) u2=>(i≤t.kids.length∧OwnK 26 (fun k=>((D k∧k<n0)∨n0≤k)∧k≠b3∧k≠b6) n0 u2 (insK t.kids K i) (.slice a45 t.kids.length c45))∧G w u2) _ [(2,True,_),(3,True,_),(6,True,_),(7,True,_),(9,True,_)] (fun (i:Nat)=>[(10,True,.int .i64 i),(1,True,.int .i64 (insA t.kids K i).2)]) (fun (i:Nat)=>t.kids.length-i) (0) ⟨⟨Ara _,hO⟩,g⟩ (Yb (blkE E.g1) (Yb (blkE E.g0) (Wd _))) (Za J (Za J (Za J (Za J (Za J (Za J (Za J (Zr _)))))))) ?_;clear E;rintro i u2 ⟨hI2,gl2⟩ ⟨B3,B6,_⟩;replace B3:Blk _ _ _ _:=B3;replace B6:Blk _ _ _ _:=B6;have g:=gl2;clear hO;obtain ⟨hi,hO⟩:=hI2;have hbi:=hbd i hi K O;have E:=Vma (L:=[(b6,_,_),(b3,_,_)]) hnd2 ⟨B6,B3,trivial⟩ rfl
 refine Zj (Zj (Zl (Zv J (Zv J (Zz J (fun _=>Ysa Zc (Zd J)) (Uua J J (Zv J (Zk J J J (fun _=>Zw (Zd J)) (Zk J J J (fun _=>Qmc (Zp J id) Xa) (Zz J (fun _=>Yn (Zd J) (Zp J id)) (Ze (kq (Wz J (fun h4=>?_) (fun h4=>?_))))))))))))));rw [Ala,Wpg,Wpg] at h4;have h2:i<t.kids.length:=by omega
 have hA:=h4.2;have hkl:=Wnb t.kids K hi;obtain ⟨gg,cc,l,es,hB,hfit,_,_,⟨u,hu,hku⟩,_⟩:=hO.seti (i:=i) (by rw [hkl];exact h2);injection es with e1 _ e3;subst e1 e3;rw [Wse h2] at hu hku;have hcell:=hB.row.part (i*9) 9;rw [hu] at hcell;have hck:=Jk h2;have hgl:=hB.lt;have gsz:=g.size;have q3:=E.ltm (X:=[b3,b6]) Os b3 Os;have q6:=E.ltm (X:=[b3,b6]) Os b6 Os;refine Yw (kq (Zj (Yx (Zl (Zv J (Zv J (Zv J (Zv J (Zz J (fun _=>Yv Zc (Zd J) (Zd J) (fun _=>O) (fun _=>J)) (Wm Zf J J hcell (Zv J (Zv J (Xm J (Zu Jha Xy (aqc J (aqc J (aqc J aq0))) J) (ih _ (Aaa h2) _ _ _ _ hku O hA O) ?_)))))))))))));rintro v53 w53 ⟨⟨u53,rfl,k53⟩,g53⟩;refine ⟨fun _=>g53,?_⟩;have g:=g.trans (g53);replace E:=E.grow (g53);try have hk:=hk.grow (g53)
 try have hO:=hO.grow (g53)
 obtain ⟨p53,c53,rfl,_⟩:=id k53;obtain ⟨g2,c2,l2,es2,hB2,hfit2,hDg2,hge2,_,hset⟩:=hO.seti (i:=i) (by rw [hkl];exact h2);injection es2 with e1 _ e3;injection e1 with e1;injection e1 with e1;subst e1 e3;refine Zv J (Qo J J (Qo J J (Zz J (fun _=>Yv Zc (Zd J) (Zd J) (fun _=>O) (fun _=>J)) (Xn J Yj (Zd J) (Zd J) J J hB2 (by rw [Nat.ble_eq];show 0+i*9+9≤l2.length;omega) J ?_))));intro w61 hg61 hz61 B61;have hg61:World.grownBy _ w61 (some gg):=hg61;have n3:=hDg2.2.1;have n6:=hDg2.2.2;have B61:Blk w61 gg 26 (l2.take (0+i*9)++ndCells (insT t.kids[i] (insA t.kids K i).2).1 (.slice p53 (insT t.kids[i] (insA t.kids K i).2).1.kids.length c53)++l2.drop (0+i*9+(ndCells (insT t.kids[i] (insA t.kids K i).2).1 (.slice p53 (insT t.kids[i] (insA t.kids K i).2).1.kids.length c53)).length)):=B61;rw [Aoa] at B61;have hO:=hset hg61 B61 (D':=fun k=>((D k∧k<n0)∨n0≤k)∧k≠b3∧k≠b6) (fun _ h=>h) ((k53.keep hg61 (fun k hk _ e=>by injection e with e;rcases hk with hk|hk;exact hk.1.2 e;omega)).mono fun k hk _=>by rcases hk with hk|hk;exact hk.1;exact ⟨⟨.inr O,O,O⟩,O⟩);rw [Zdd h2 hA,Wnb t.kids K h2] at hO;replace E:=E.keep hg61 (by simp;omega);have g:=Jf g hg61 (by intro k hk;injection hk with hk;omega);have hAn:=Veb h2 hA;refine Yr J (Ze (kq (Zl (Zv J (Zz J (fun _=>Ukb (Zd J) Xa (fun _=>O)) (Yr J (Wx [(10,_,_),(1,_,_),(2,_,_),(3,_,_),(6,_,_),(7,_,_),(9,_,_)] (Za J (Za J (Za J (Za J (Za J (Za J (Za J (Zr _)))))))) (Ze (fun a ha=>?_)))))))));exact ⟨i+1,by rw [hAn];exact ha,⟨⟨h2,hO⟩,g⟩,(Yb (blkE E.g1) (Yb (blkE E.g0) (Wd _))),O⟩
 have hstop:i=t.kids.length∨¬ 0≤(insA t.kids K i).2:=by rw [Aya,Wqg,Wqg] at h4;omega
 refine Xea J (kq (Zj (Zl (Zv J (Xg Zh J (Xr J Vb (Zd J) (Zd J) J E.g1 J J ?_))))));intro wS8 hgS8 hzS8 BS;replace E:=E.s1 hgS8 BS;have g:=Jf g hgS8 (by intro k hk;injection hk with hk;omega);try have hk:=hk.keep hgS8 (fun k hk _ e=>by injection e with e;omega)
 try have hO:=hO.keep hgS8 (by rintro ⟨_,h,h'⟩;omega)
 refine Ze (kq (Zj (Zl (Wm Zf J J E.g1.row (Zv J (Xq J Yj (Zd J) (Zd J) J J E.g0 J J ?_))))));intro wS9 hgS9 hzS9 BS;replace E:=E.s0 hgS9 BS;have g:=Jf g hgS9 (by intro k hk;injection hk with hk;omega);try have hk:=hk.keep hgS9 (fun k hk _ e=>by injection e with e;omega)
 try have hO:=hO.keep hgS9 (by rintro ⟨_,h,h'⟩;omega)
 refine Yr J (Ze (kq (Xo (Yua (rs:=[.cell 6 26,.tmp 7]) (vs:=[_,_]) J J (Zra J Zf J (E.g0.row) (Jna J (Ub))) J ?_))));rw [Wtf hno hKK,Qfd hi hstop];exact ⟨⟨_,rfl,hO.kd fun k hk=>by rw [← hn0];exact hk.1⟩,g⟩
theorem Wdg{t:Nd}(h:occB unuN t=false):∀ y∈listN t,uB y.text=false:=by
 unfold occB at h;rw [List.any_eq_false] at h;intro y hy;have:=h y hy;unfold uB;simpa using this
theorem Qgd:∀ (l:List Nd) (k:Int),(∀ t∈l,∀ k,count (insT t k).1≤count t+3∧(count (insT t k).1≠count t→(insT t k).2 = -1))→((insL (l.map insT) l k).1.map count).sum≤(l.map count).sum+3∧(((insL (l.map insT) l k).1.map count).sum≠(l.map count).sum→(insL (l.map insT) l k).2 = -1)
 | [],k,_=>⟨Nat.le_add_right _ _,fun h=>absurd rfl h⟩
 | t::l,k,hT=>by
  have h0:=hT t Aia k;have ih:=Qgd l (insT t k).2 fun s hs=>hT s (Ada _ hs);rw [Afa,insL];cases hk:decide (0≤k);exact ⟨Nat.le_add_right _ _,fun h=>absurd rfl h⟩;simp only [Wug,Afa,List.sum_cons];by_cases hc:count (insT t k).1=count t;rw [hc];exact ⟨O,fun h=>ih.2 O⟩;have e:=h0.2 hc
  have z:insL (l.map insT) l (insT t k).2=(l,(insT t k).2):=by
   rw [e]
   match l with
   | []=>rfl
   | s::m=>rfl
  rw [z];exact ⟨by show count (insT t k).1+(l.map count).sum≤_;omega,fun _=>e⟩
theorem Zye:∀ t k,count (insT t k).1≤count t+3∧(count (insT t k).1≠count t→(insT t k).2 = -1):=by
 refine Nd.ind fun t ih k=>?_;rw [Zac];cases h0:decide (t.kind=10)&&decide (k=0);simp only [Wtg];have:=Qgd t.kids (bif decide (t.kind=10) then k-1 else k) fun s hs j=>ih s hs j;have e:count (.mk t.kind t.text t.num t.pos (insL (t.kids.map insT) t.kids (bif decide (t.kind=10) then k-1 else k)).1 t.ty t.ref t.up)=1+((insL (t.kids.map insT) t.kids (bif decide (t.kind=10) then k-1 else k)).1.map count).sum:=Qi _;rw [e,Qi t];exact ⟨O,fun h=>this.2 O⟩;have e:count (.mk t.kind t.text t.num t.pos (unD::t.kids) t.ty t.ref t.up)=1+((unD::t.kids).map count).sum:=Qi _;simp only [Wug];rw [e,Qi t,Afa,List.sum_cons,show count unD=3 by decide +kernel];exact ⟨O,fun _=>by first|rfl|trivial⟩
theorem Qhd(t:Nd)(b:Int)(v:Ba)(D:Nat→Prop)(w:Aa)(hb0:0≤b∧b≤255)(hL:LaidW w.heap.size w)(hkD:Kd w D t.kids v)(hct:count t≤1048576):Ret PP 7 #[ndV t v,.int .u8 b] w fun r w'=>r = .bool true∧G w w':=by
 obtain ⟨n0,hn0⟩:∃ n,n=w.heap.size:=⟨_,rfl⟩;have hk:Kd w (fun k=>k<n0) t.kids v:=Kd.mono hkD fun k _ h=>by rw [hn0];exact h
 obtain ⟨p,c,rfl,_⟩:=id hk;have g:=G.refl w;refine Vo (m:=53) Tryz.func7 J J [(0,True,_),(1,True,_)] (Za J (Za J (Zr _))) ?_;refine Zj (Zl (Zda J (Zd J) J ?_));intro b2 w2 N2;have l2:=N2.ge g;have nat2:=N2.at_;have nsz2:=N2.size;have g:=g.trans (N2.g);try have hk:=hk.grow (N2.g)
 have E:=(Qp _).new N2;refine Yr J (Ze (kq (Zj (Zj (Zl (Xm J (Zu Zjd Xy (aq0) J) (Uze _ ((hL.grow g).top)) ?_))))));rintro v13 w13 ⟨rfl,g13⟩;refine ⟨fun _=>g13,?_⟩;have g:=g.trans (g13);replace E:=E.grow (g13);try have hk:=hk.grow (g13)
 refine Vbe J (Ze (kq (Wz J (fun h1=>?_) (fun h1=>?_))))
 ·exact absurd h1 Od
  done
 (try simp only [bsimp] at h1);refine Yw (kq (Zj (Zj (Zl (Wm Zf J J E.g0.row (Xm J (Zu Qpb Xy (aqc J aq0) J) (Vre t _ _ _ hk O) ?_))))));rintro v16 w16 ⟨rfl,g16⟩;refine ⟨fun _=>g16,?_⟩;have g:=g.trans (g16);replace E:=E.grow (g16);try have hk:=hk.grow (g16)
 refine Vbf J J (Zv J (Yg J J J (Zo Zf (Zd J) J (fun _=>E.g0.row)) (Xu J J J (fun _=>(Zu Uyc Xy (Ya (Zp J id) (Ya Xa (Yl))) J)) (fun hc=>Qee unuN t _ _ _ hk (by have:=Wsg hc.2;omega)) (fun w20 g20=>?_))));have g:=g.trans (g20);replace E:=E.grow (g20);try have hk:=hk.grow (g20)
 refine Zz J (fun _=>Xd (Zd J) (Zp J id)) (Ze (kq (Wz J (fun h2=>?_) (fun h2=>?_))))
 ·(try simp only [bsimp] at h2)
  refine Zj (Zl (Yr J (Ze (kq (Xo (Wj J J ?_))))));exact ⟨by first|rfl|exact Wog (Wng rfl),g⟩
 have h2a:count t≤200:=by have:=Wsg (Aja.1 h2).1;omega
 have h2b:=Wdg (Aja.1 h2).2;obtain ⟨q,hq⟩:∃ q,q=b.tmod 16:=⟨_,rfl⟩;have hq0:0≤q∧q≤15:=by rw [hq,Int.tmod_eq_emod_of_nonneg hb0.1];omega
 obtain ⟨F',hF'⟩:∃ F',F'=(insT t q).1:=⟨_,rfl⟩;have hcF:count F'≤203:=by rw [hF'];have:=(Zye t q).1;omega
 have hin:InR uB t F':=by rw [hF'];exact Wbg t h2b q
 refine Yw (kq (Zj (Qua [0,3,3,3,1,3,3,3,1,2,3] (Wm Zf J J E.g0.row (Zv J (Zz J (fun _=>Wzf (Zd J) Xa (fun _=>O)) (Zz J (fun _=>Qse (r:=q) Jbe Zrg (Zd J) (fun hc=>(by rw [← hq];exact Wfc ⟨O,O⟩))) (Xm J (Zu Jha Xy (aqc J (aqc J (aqc J aq0))) J) (Qfe t _ _ _ q hk O O O) ?_))))))));rintro v27 w27 ⟨⟨u27,rfl,k27⟩,g27⟩;refine ⟨fun _=>g27,?_⟩;have g:=g.trans (g27);replace E:=E.grow (g27);try have hk:=hk.grow (g27)
 try have k27:=k27.grow (g27)
 rw [← hF'];rw [← hF'] at k27;have k27:Kd w27 (fun k=>k<w27.heap.size) F'.kids u27:=Kd.mono k27 fun k _ h=>h;obtain ⟨p27,c27,rfl,_⟩:=id k27;refine Zv J (Qo J J (Qo J J (Xc J Zs J ?_)));intro b5 w5 N5;have l5:=N5.ge g;have nat5:=N5.at_;have nsz5:=N5.size;try have k27:=k27.grow N5.g
 have g:=g.trans (N5.g);try have hk:=hk.grow (N5.g)
 try have k27:=k27.grow (N5.g)
 replace E:=E.new N5;refine Xq J Yj (Zd J) (Zd J) J J E.g0 J J ?_;intro wS1 hgS1 hzS1 BS;replace E:=E.s0 hgS1 BS;have g:=Jf g hgS1 (by intro k hk;injection hk with hk;omega);try have hk:=hk.keep hgS1 (fun k hk _ e=>by injection e with e;omega)
 try have k27:=k27.keep hgS1 (fun k hk _ e=>by injection e with e;have hk:k<w27.heap.size:=hk;omega)
 refine Yr J (Ze (kq (Zj (Zj (Zl (Wm Zf J J E.g1.row (Xm J (Zu Qqb Xy (aqc J aq0) J) (Xdc t _ _ _ hk O) ?_)))))));rintro v31 w31 ⟨rfl,g31⟩;refine ⟨fun _=>g31,?_⟩;have g:=g.trans (g31);replace E:=E.grow (g31);try have hk:=hk.grow (g31)
 try have k27:=k27.grow (g31)
 have sz31:=g31.size;refine Vbe J (Zv J (Yg J J J (Zo Zf (Zd J) J (fun _=>E.g0.row)) (Xu J J J (fun _=>(Zu Qqb Xy (Ya (Zp J id) (Yl)) J)) (fun hc=>Xdc F' _ _ _ k27 O) (fun w35 g35=>?_))));have g:=g.trans (g35);replace E:=E.grow (g35);try have hk:=hk.grow (g35)
 try have k27:=k27.grow (g35)
 have sz35:=g35.size;refine Zk J J J (fun _=>Yvb (Zp J id)) (Zz J (fun _=>Xd (Zd J) (Zp J id)) (Ze (kq (Wz J (fun h3=>?_) (fun h3=>?_)))))
 ·(try simp only [bsimp] at h3)
  refine Zj (Zl (Yr J (Ze (kq (Xo (Wj J J ?_))))));exact ⟨by first|rfl|exact Wog (Wng rfl),g⟩
 have hv1:validB t=true:=by have:=(Aja.1 h3).1;simpa using this
 have hv2:validB F'=true:=by have:=(Aja.1 h3).2;simpa using this
 have er:=Zxe hin hv1 hv2;refine Yw (kq (Zj (Zl (Wm Zf J J E.g1.row (Xm J (Zu Uva Xy (aqc J aq0) J) (Ytc t _ _ _ [b2] hk O ((hL.grow g).top) (E.ltm Ob) g.size) ?_)))));rintro v40 w40 ⟨⟨p40,c40,rfl,q40,k40⟩,g40⟩;refine ⟨fun _=>g40,?_⟩;have g:=g.trans (g40);replace E:=E.grow (g40);try have hk:=hk.grow (g40)
 try have k27:=k27.grow (g40)
 have sz40:=g40.size;refine Zv J (Qo J J (Qo J J (Qo J J (Xc J Zs J ?_))));intro b7 w7 N7;have l7:=N7.ge g;have nat7:=N7.at_;have nsz7:=N7.size;try have k27:=k27.grow N7.g
 have g:=g.trans (N7.g);try have hk:=hk.grow (N7.g)
 try have k27:=k27.grow (N7.g)
 replace E:=E.new N7;refine Xq J Yj (Zd J) (Zd J) J J E.g0 J J ?_;intro wS2 hgS2 hzS2 BS;replace E:=E.s0 hgS2 BS;have g:=Jf g hgS2 (by intro k hk;injection hk with hk;omega);try have hk:=hk.keep hgS2 (fun k hk _ e=>by injection e with e;omega)
 try have k27:=k27.keep hgS2 (fun k hk _ e=>by injection e with e;have hk:k<w27.heap.size:=hk;omega)
 refine Yr J (Yr J (Ze (kq (Zj (Zl (Wm Zf J J E.g1.row (Xm J (Zu Uva Xy (aqc J aq0) J) (Ytc F' _ _ _ [b2] k27 O ((hL.grow g).top) (E.ltm Ob) g.size) ?_)))))));rintro v46 w46 ⟨⟨p46,c46,rfl,q46,k46⟩,g46⟩;refine ⟨fun _=>g46,?_⟩;have g:=g.trans (g46);replace E:=E.grow (g46);try have hk:=hk.grow (g46)
 try have k27:=k27.grow (g46)
 rw [er];have sz46:=g46.size;refine Zv J (Qo J J (Qo J J (Qo J J (Xc J Zs J ?_))));intro b10 w10 N10;have l10:=N10.ge g;have nat10:=N10.at_;have nsz10:=N10.size;try have k27:=k27.grow N10.g
 have g:=g.trans (N10.g);try have hk:=hk.grow (N10.g)
 try have k27:=k27.grow (N10.g)
 replace E:=E.new N10;refine Xq J Yj (Zd J) (Zd J) J J E.g0 J J ?_;intro wS3 hgS3 hzS3 BS;replace E:=E.s0 hgS3 BS;have g:=Jf g hgS3 (by intro k hk;injection hk with hk;omega);try have hk:=hk.keep hgS3 (fun k hk _ e=>by injection e with e;omega)
 try have k27:=k27.keep hgS3 (fun k hk _ e=>by injection e with e;have hk:k<w27.heap.size:=hk;omega)
 refine Yr J (Yr J (Ze (kq (Zj (Zl (Zv J (Zv J (Zea J J (Yr J (Ze (kq (Xo (Wj J J ?_)))))))))))));exact ⟨by first|rfl|exact Wog (Wng rfl),g⟩
end Go.Rk
