/- Merged texts of one road: CkV, FldA, FldB, Rtd, FldC, FldD, FldF, FldG, Fck, Fcl, Fcm, Fcn, Fco, CkU, CkW, CkZ, Cqf, Cpb, Cpc, FldR, FldE, FldS, Fcw, Cpd, Cqg, Cqh, ScanR, Pka, Pkb, Pkc, Pkd. Conditions: each text's own. -/
import Derived.Test.YtapkdoacegpgaaaGreatDoorC04
import Derived.Test.YtapkdoacegpgaaaGreatDoorC03
import Derived.Test.YtapkdoacegpgaaaGreatDoorC02
import Derived.Test.YtapkdoacegpgaaaGreatDoorC05
set_option linter.unusedSimpArgs false
set_option linter.unusedVariables false
namespace Go.Proofs
end Go.Proofs
namespace Go.Rk
open Go.Proofs
open Go Go.RowKit
def Sc(S:CSt):Prop:=∀ v∈S.vars,v.scope≤S.scope
structure Vs (S T:CSt):Prop where
  vars:T.vars=S.vars
  scope:T.scope=S.scope
structure Vp (S T:CSt):Prop where
  vars:∃ l,T.vars=S.vars++l∧∀ v∈l,v.scope=S.scope
  scope:T.scope=S.scope
theorem Vs.refl(S:CSt):Vs S S:=⟨rfl,rfl⟩
theorem Vs.trans{S T U:CSt}(h:Vs S T)(k:Vs T U):Vs S U:=⟨k.vars.trans h.vars,k.scope.trans h.scope⟩
theorem Vs.sc{S T:CSt}(h:Vs S T)(k:Sc S):Sc T:=fun v hv=>by rw [h.scope];exact k v (h.vars▸hv)
theorem Vs.vp{S T:CSt}(h:Vs S T):Vp S T:=⟨⟨[],by rw [h.vars,List.append_nil],fun v hv=>by cases hv⟩,h.scope⟩
theorem Vp.sc{S T:CSt}(h:Vp S T)(k:Sc S):Sc T:=fun v hv=>by
 obtain ⟨l,h1,h2⟩:=h.vars;rw [h.scope];rcases List.mem_append.1 (h1▸hv) with q|q;exact k v q;exact Nat.le_of_eq (h2 v q)
theorem Vp.trans{S T U:CSt}(h:Vp S T)(k:Vp T U):Vp S U:=by
 obtain ⟨l,h1,h2⟩:=h.vars;obtain ⟨m,k1,k2⟩:=k.vars;refine ⟨⟨l++m,by rw [k1,h1,List.append_assoc],fun v hv=>?_⟩,k.scope.trans h.scope⟩;rcases List.mem_append.1 hv with q|q;exact h2 v q;rw [k2 v q,h.scope]
theorem Vyg(a e:Int)(S:CSt):Vs S (failS a e S):=⟨(Vab a e S).1,(Vab a e S).2.1⟩
theorem Zng(b:Bool)(a e:Int)(S:CSt):Vs S (failU b a e S):=⟨(Upa b a e S).1,(Upa b a e S).2.1⟩
theorem Vs.fail{S T:CSt}(h:Vs S T)(a e:Int):Vs S (failS a e T):=h.trans (Vyg a e T)
theorem Vs.failu{S T:CSt}(h:Vs S T)(b:Bool)(a e:Int):Vs S (failU b a e T):=h.trans (Zng b a e T)
theorem Vs.cond{S T U:CSt}{b:Bool}(h:Vs S T)(k:Vs S U):Vs S (bif b then T else U):=by cases b <;> assumption
theorem Jie(F n:Nd)(S:CSt):Vs S (pointerS F n S):=((Vs.refl S).failu _ _ _).cond (Vs.refl S)
theorem Vhe(F n:Nd)(S:CSt):Vs S (localS F n S):=(Jie F n S).failu _ _ _
theorem Vnc(s:List UInt8)(y:Ty)(a:Int)(S:CSt):Vp S (declS s y a S) :=
 ⟨⟨[⟨s,y,declN S,S.level,S.scope⟩],rfl,fun v hv=>by rw [List.mem_singleton.1 hv]⟩,(Upa (!dupV S s) a 6 S).2.1⟩
theorem Wyf{sc:Nat}{vs l:List Vr}(h1:∀ v∈l,v.scope=sc)(h2:∀ v∈vs,v.scope<sc):dropV sc (vs++l)=vs:=by
 unfold dropV;rw [List.reverse_append]
 have e:∀ (a b:List Vr),(∀ v∈a,v.scope=sc)→(∀ v∈b,v.scope<sc)→(a++b).dropWhile (fun v=>decide (v.scope=sc))=b:=by
  intro a b ha hb
  induction a with
  | nil =>
   cases b with
   | nil=>rfl
   | cons x b=>rw [List.nil_append,List.dropWhile_cons_of_neg];have:=hb x List.mem_cons_self;simp;omega
  | cons x a ih=>rw [List.cons_append,List.dropWhile_cons_of_pos (by simp [ha x List.mem_cons_self])];exact ih fun v hv=>ha v (List.mem_cons_of_mem _ hv)
 rw [e l.reverse vs.reverse (fun v hv=>h1 v (List.mem_reverse.1 hv)) (fun v hv=>h2 v (List.mem_reverse.1 hv)),List.reverse_reverse]
theorem Vie{S T:CSt}(hs:Sc S)(h:Vp (openS S) T):Vs S (shutS T):=by
 obtain ⟨l,h1,h2⟩:=h.vars;have hsc:T.scope=S.scope+1:=h.scope;refine ⟨?_,by show T.scope-1=_;omega⟩;show dropV T.scope T.vars=S.vars;rw [h1,hsc];exact Wyf h2 fun v hv=>Nat.lt_succ_of_le (hs v hv)
theorem Voc{S:CSt}(h:Sc S):Sc (openS S):=fun v hv=>Nat.le_succ_of_le (h v hv)
theorem Jzg{S T:CSt}(h:Vs (litS S) T):Vs S { T with level:=T.level-1,result:=S.result }:=⟨h.vars,h.scope⟩
structure CkV (c:Ck):Prop where
  ex:∀ S,Sc S→Vs S (c.ex S).2
  mem:∀ S,Sc S→Vs S (c.mem S).2
  cal:∀ S,Sc S→Vs S (c.cal S).2
  st:∀ S,Sc S→Vp S (c.st S).2
  blk:∀ S,Sc S→Vs S (c.blk S).2
  ifs:∀ S,Sc S→Vs S (c.ifs S).2
  sts:∀ S,Sc S→Vp S (c.sts S).2
  cas:∀ f S,Sc S→Vs S (c.cas f S).2
theorem Qwg:CkV ck0:=⟨fun S _=>Vs.refl S,fun S _=>Vs.refl S,fun S _=>Vs.refl S,fun S _=>(Vs.refl S).vp,fun S _=>Vs.refl S,fun S _=>Vs.refl S,fun S _=>(Vs.refl S).vp,fun _ S _=>Vs.refl S⟩
section
variable {F t:Nd} {x:Nat→Ck}
theorem Vs.ex(X:∀ i,CkV (x i)){S T:CSt}(h:Vs S T)(hs:Sc S)(i:Nat):Vs S ((x i).ex T).2:=h.trans ((X i).ex T (h.sc hs))
theorem Vs.blk(X:∀ i,CkV (x i)){S T:CSt}(h:Vs S T)(hs:Sc S)(i:Nat):Vs S ((x i).blk T).2:=h.trans ((X i).blk T (h.sc hs))
theorem Zog(X:∀ i,CkV (x i)){S:CSt}(hs:Sc S):Vs S (memR F t x S).2:=by
 have h:=Vs.ex X (Vs.refl S) hs 0;unfold memR;dsimp only;cases decide (((x 0).ex S).1.ty.kind=4);exact h.fail _ _;simp only [cond_true];split;exact h;exact h.fail _ _
theorem Zpg(X:∀ i,CkV (x i))(ps:List Ty){S T:CSt}(hs:Sc S)(h:Vs S T):∀ i,Vs S (argA t x ps T i).2
 | 0=>h
 | i+1=>(Vs.ex X (Zpg X ps hs h i) hs (i+1)).failu _ _ _
theorem Vzg(X:∀ i,CkV (x i)){S:CSt}(hs:Sc S):Vs S (callR t x S).2:=Zpg X _ hs (((X 0).cal S hs).failu _ _ _) _
theorem Uag(X:∀ i,CkV (x i)){S:CSt}(hs:Sc S):Vs S (litR t x S).2:=Jzg ((X 0).blk (litS S) hs)
theorem vs_op(X:∀ i,CkV (x i)){S:CSt}(hs:Sc S):Vs S (opR t x S).2:=by
 have h:=Vs.ex X (Vs.refl S) hs 0;unfold opR;dsimp only [wantS];repeat' (first|(generalize decide (t.kind=_)=q;cases q <;> simp only [cond_true,cond_false]))
 all_goals first
  | exact (Vs.ex X (h.failu _ _ _) hs 1).failu _ _ _
  | exact (Vs.ex X h hs 1).failu _ _ _
  | exact h.failu _ _ _
  | exact h
theorem Zqg(X:∀ i,CkV (x i)){S:CSt}(hs:Sc S):Vs S (exR F t x S).2:=by
 unfold exR;cases decide (t.kind=24);case true=>exact Vs.refl S
 cases decide (t.kind=25);case true=>exact Vs.refl S
 cases decide (t.kind=26);case true=>exact Vs.refl S
 cases decide (t.kind=38);case true=>exact Uag X hs
 cases decide (t.kind=30);case true=>exact Vzg X hs
 cases decide (t.kind=27);case true=>exact ((Vs.refl S).failu _ _ _).cond ((Vs.refl S).fail _ _)
 cases decide (t.kind=28);case true=>exact (Zog X hs).failu _ _ _
 cases decide (t.kind=34);case true=>exact (Vs.refl S).failu _ _ _
 exact vs_op X hs
theorem Zah(X:∀ i,CkV (x i)){S:CSt}(hs:Sc S):Vs S (calR F t x S).2:=by
 unfold calR;dsimp only;cases decide (t.kind=28)&&((x 0).rcv S).2;simp only [cond_false];cases decide (t.kind=27)&&((lookR F S t).2&&decide ((lookR F S t).1.ref=3));exact (Zqg X hs).failu _ _ _;exact Vs.refl S;refine Vs.failu ?_ _ _ _;unfold rcvX;cases decide ((Zb t 0).kind=28);exact Vs.refl S;exact (X 0).mem S hs
theorem Jje(X:∀ i,CkV (x i)){S:CSt}(hs:Sc S):∀ i,Vp S (stA x S i).2
 | 0=>(Vs.refl S).vp
 | i+1=>(Jje X hs i).trans ((X i).st _ ((Jje X hs i).sc hs))
theorem Zrg(X:∀ i,CkV (x i)){S:CSt}(hs:Sc S):Vp S (stsR t x S).2:=Jje X hs _
theorem Jke(X:∀ i,CkV (x i)){S:CSt}(hs:Sc S):Vs S (blkR t x S).2:=Vie hs (Zrg X (Voc hs))
theorem Yef(X:∀ i,CkV (x i))(k:Nd){S:CSt}(hs:Sc S):Vs S (condR k (x 0) S).2:=by
 unfold condR;cases decide (k.kind=9);exact ((X 0).ex S hs).failu _ _ _;exact Vs.refl S
theorem Qxg(X:∀ i,CkV (x i)){S:CSt}(hs:Sc S):Vs S (ifR t x S).2:=by
 have h1:Vs S ((x 1).blk (condR (Zb t 0) (x 0) S).2).2:=Vs.blk X (Yef X _ hs) hs 1;unfold ifR;dsimp only;cases decide ((Zb t 2).kind=10);cases decide ((Zb t 2).kind=18);exact h1;exact h1.trans ((X 2).ifs _ (h1.sc hs));exact h1.trans ((X 2).blk _ (h1.sc hs))
theorem Zbh(X:∀ i,CkV (x i)){S:CSt}(hs:Sc S):Vs S (asgR t x S).2:=(Vs.ex X ((Vs.ex X (Vs.refl S) hs 0).failu _ _ _) hs 1).failu _ _ _
theorem Zsg(X:∀ i,CkV (x i))(f:Bool){S:CSt}(hs:Sc S):Vs S (casR t x f S).2:=by
 have h:Vp (openS S) (bif decide ((Zb t 0).kind=9) then (clnT (Zb t 0),failU f t.pos 6 (openS S)) else (x 0).st (openS S)).2:=by
  cases decide ((Zb t 0).kind=9);exact (X 0).st _ (Voc hs);exact ((Vs.refl _).failu _ _ _).vp
 exact Vie hs (h.trans ((X 1).sts _ (h.sc (Voc hs))))
theorem Yae(X:∀ i,CkV (x i)){S:CSt}(hs:Sc S):∀ i,Vs S (selA t x S i).2.2
 | 0=>Vs.refl S
 | i+1=>(Yae X hs i).trans ((X i).cas _ _ ((Yae X hs i).sc hs))
theorem Zch(X:∀ i,CkV (x i)){S:CSt}(hs:Sc S):Vp S (varR F t x S).2:=by
 unfold varR;dsimp only;cases decide ((Zb t 1).kind=9);exact ((Vs.ex X (Vhe F _ S) hs 1).failu _ _ _).vp.trans (Vnc _ _ _ _);exact (Vhe F _ S).vp.trans (Vnc _ _ _ _)
theorem Zdh(X:∀ i,CkV (x i)){S:CSt}(hs:Sc S):Vp S (defR t x S).2:=(((X 0).ex S hs).failu _ _ _).vp.trans (Vnc _ _ _ _)
theorem Zeh(X:∀ i,CkV (x i)){S:CSt}(hs:Sc S):Vs S (forR t x S).2:=Vs.blk X (Yef X _ hs) hs 1
theorem Zfh(X:∀ i,CkV (x i)){S:CSt}(hs:Sc S):Vs S (retR t x S).2:=by
 unfold retR;dsimp only;cases decide ((t.kids.length:Int)=1);exact (Vs.refl S).failu _ _ _;exact (Vs.ex X ((Vs.refl S).failu _ _ _) hs 0).failu _ _ _
theorem Zgh(X:∀ i,CkV (x i)){S:CSt}(hs:Sc S):Vp S (stR F t x S).2:=by
 unfold stR;dsimp only;cases decide (t.kind=10);case true=>exact (Jke X hs).vp
 cases decide (t.kind=18);case true=>exact (Qxg X hs).vp
 cases decide (t.kind=12);case true=>exact (Zbh X hs).vp
 cases decide (t.kind=22);case true=>exact (Yae X hs _).vp
 cases decide (t.kind=6);case true=>exact Zch X hs
 cases decide (t.kind=11);case true=>exact Zdh X hs
 cases decide (t.kind=19);case true=>exact (Zeh X hs).vp
 cases decide (t.kind=20);case true=>exact (Zfh X hs).vp
 have h:=(X 0).ex S hs;simp only [cond_false,wantS];cases decide (t.kind=16);case true=>exact ((Vs.ex X (h.failu _ _ _) hs 1).failu _ _ _).vp
 cases decide (t.kind=17);case true=>exact (h.failu _ _ _).vp
 cases decide (t.kind=21);case true=>exact (h.failu _ _ _).vp
 exact h.vp
theorem ckv_f(X:∀ i,CkV (x i)):CkV (ckF F t x) :=
 ⟨fun S h=>Zqg X h,fun S h=>Zog X h,fun S h=>Zah X h,fun S h=>Zgh X h,fun S h=>Jke X h,fun S h=>Qxg X h,fun S h=>Zrg X h,fun f S h=>Zsg X f h⟩
end
theorem ckv_t(F:Nd):∀ t,CkV (ckT F t):=by
 refine Nd.ind fun t ih=>?_;rw [Yva];refine ckv_f fun i=>?_;by_cases h:i<t.kids.length;rw [Vt h,Wg h];exact ih _ (List.getElem_mem h);rw [ckX];simp only [List.getD_eq_getElem?_getD,List.getElem?_map];rw [List.getElem?_eq_none (by omega)];exact Qwg
theorem ckv_x(F t:Nd)(i:Nat):CkV (ckX F t i):=by
 by_cases h:i<t.kids.length;rw [Vt h];exact ckv_t F _;rw [ckX];simp only [List.getD_eq_getElem?_getD,List.getElem?_map];rw [List.getElem?_eq_none (by omega)];exact Qwg
abbrev Cst:=Bool×Int
@[reducible] def conV(c:Cst):Value:=.agg #[.bool c.1,.int .i64 c.2]
def zc:Cst×Bool:=((false,0),false)
def trC(b:Bool):Cst×Bool:=((true,bif b then 1 else 0),true)
def nmC(n:Int):Cst×Bool:=((false,n),true)
def binF(op:List UInt8)(x y:Cst):Cst×Bool :=
 bif decide (op=[61,61]) then trC (decide (x.2=y.2))
 else bif decide (op=[33,61]) then trC (!decide (x.2=y.2))
 else bif x.1 then
  bif decide (op=[38,38]) then trC (decide (x.2=1)&&decide (y.2=1))
  else bif decide (op=[124,124]) then trC (decide (x.2=1) || decide (y.2=1))
  else zc
 else bif decide (op=[43]) then nmC (IntKind.i64.wrap (x.2+y.2))
 else bif decide (op=[45]) then nmC (IntKind.i64.wrap (x.2-y.2))
 else bif decide (op=[42]) then nmC (IntKind.i64.wrap (x.2*y.2))
 else bif decide (op=[47]) then (bif !decide (y.2=0) then nmC (IntKind.i64.wrap (x.2.tdiv y.2)) else zc)
 else bif decide (op=[37]) then (bif !decide (y.2=0) then nmC (x.2.tmod y.2) else zc)
 else bif decide (op=[60]) then trC (decide (x.2<y.2))
 else bif decide (op=[60,61]) then trC (decide (x.2≤y.2))
 else bif decide (op=[62]) then trC (decide (y.2<x.2))
 else bif decide (op=[62,61]) then trC (decide (y.2≤x.2))
 else zc
def valF(t:Nd)(r:Nat→Cst×Bool):Cst×Bool :=
 bif decide (t.kind=24) then ((false,t.num),(decide (0≤t.num)&&plainB t)&&lenK t 0)
 else bif decide (t.kind=25) then ((true,t.num),((decide (t.num=0) || decide (t.num=1))&&plainB t)&&lenK t 0)
 else bif decide (t.kind=31)&&lenK t 1 then
  bif ((r 0).2&&decide (t.text=[45])) && !(r 0).1.1 then nmC (IntKind.i64.wrap (0-(r 0).1.2))
  else bif ((r 0).2&&decide (t.text=[33]))&&(r 0).1.1 then ((true,IntKind.i64.wrap (1-(r 0).1.2)),true)
  else zc
 else bif decide (t.kind=32)&&lenK t 2 then
  bif ((r 0).2&&(r 1).2)&&((r 0).1.1 == (r 1).1.1) then binF t.text (r 0).1 (r 1).1
  else zc
 else zc
def valC(t:Nd):Cst×Bool:=para (fun t l=>valF t fun i=>l.getD i zc) t
theorem getD_map'{α β:Type}(f:α→β)(l:List α)(i:Nat)(d:α):(l.map f).getD i (f d)=f (l.getD i d):=by
 simp only [List.getD_eq_getElem?_getD,List.getElem?_map];cases l[i]? <;> rfl
theorem Ztg:valC nd0=zc:=by rw [valC,Yca];rfl
theorem Ubg(t:Nd):valC t=valF t fun i=>valC (Zb t i):=by
 have h:∀ i,(t.kids.map (para (fun t l=>valF t fun i=>l.getD i zc))).getD i zc=valC (Zb t i):=fun i=>by
  have:=getD_map' valC t.kids i nd0;rw [Ztg] at this;exact this
 rw [valC,Yca];exact congrArg (valF t) (funext h)
@[reducible] def retC(x:Cst×Bool):Value:=.tuple #[.int .i64 x.1.2,.bool x.1.1,.bool x.2]
def RetD(D:Nat→Prop)(t:Nd)(r:Value)(w:World):Prop:=∃ p c,r=ndV t (.slice p t.kids.length c)∧Kd w D t.kids (.slice p t.kids.length c)
theorem RetD.grow{D:Nat→Prop}{t:Nd}{r:Value}{w w':World}(h:RetD D t r w)(g:G w w'):RetD D t r w':=by
 obtain ⟨p,c,e,k⟩:=h;exact ⟨p,c,e,k.grow g⟩
theorem RetD.mono{D D':Nat→Prop}{t:Nd}{r:Value}{w:World}(h:RetD D t r w)(hD:∀ b,D b→D' b):RetD D' t r w:=by
 obtain ⟨p,c,e,k⟩:=h;exact ⟨p,c,e,k.mono fun b hb _=>hD b hb⟩
@[reducible] def GE(n:Nat):Nat→Prop:=fun b=>n≤b
theorem OwnK.low{e:TypeId}{D:Nat→Prop}{base:Nat}{w:World}{ks:List Nd}{s:Value}(h:OwnK e D base w ks s):OwnK e (fun b=>D b∧b<w.heap.size) base w ks s:=by
 have hlt:=h.lt;obtain ⟨xs,h1,h2,h3⟩:=h;exact ⟨xs,h1,h2.lt.mono fun b hb _=>⟨⟨hb.1.1,hb.2⟩,hb.1.2⟩,fun b hb=>⟨h3 b hb,hlt b hb⟩⟩
theorem OwnK.mono{e:TypeId}{D D':Nat→Prop}{base:Nat}{w:World}{ks:List Nd}{s:Value}(h:OwnK e D base w ks s)(hD:∀ b,D b→D' b):OwnK e D' base w ks s:=by
 obtain ⟨xs,h1,h2,h3⟩:=h;exact ⟨xs,h1,h2.mono fun b hb _=>⟨hD b hb.1,hb.2⟩,fun b hb=>hD b (h3 b hb)⟩
def unN(n pos:Int):Nd:=.mk 31 [45] 0 pos [.mk 24 [] n pos [] ty0 0 0] ty0 0 0
def replT(c:Cst)(pos:Int):Nd×Bool :=
 bif c.1 then (.mk 25 [] c.2 pos [] ty0 0 0,true)
 else bif decide (0≤c.2) then (.mk 24 [] c.2 pos [] ty0 0 0,true)
 else bif !decide (c.2 = -9223372036854775808) then (unN (IntKind.i64.wrap (0-c.2)) pos,true)
 else (nd0,false)
def foldF(t:Nd)(l:List Nd):Nd :=
 bif (valC t).2&&(replT (valC t).1 t.pos).2 then (replT (valC t).1 t.pos).1
 else bif decide (t.kind=18)&&(valC (Zb t 0)).2 then
  bif decide ((valC (Zb t 0)).1.2=1) then l.getD 1 nd0
  else bif decide ((Zb t 2).kind=9) then .mk 10 [] 0 t.pos [] ty0 0 0
  else l.getD 2 nd0
 else .mk t.kind t.text (bif decide (t.kind=24) || decide (t.kind=25) then t.num else 0) t.pos l ty0 0 0
def foldT(t:Nd):Nd:=para foldF t
theorem Wdd(t:Nd):foldT t=foldF t (t.kids.map foldT):=Yca foldF t
theorem RetNd.mono{t:Nd}{b b':Nat}{v:Value}{w w':World}(h:RetNd t b v w)(hb:b'≤b)(g:G w w'):RetNd t b' v w':=by
 obtain ⟨p,c,rfl,hk⟩:=h;exact ⟨p,c,rfl,(hk.mono fun k hk _=>Nat.le_trans hb hk).grow g⟩
theorem Ucg{t:Nd}(h:t.kind=18)(hp:permF t=true):t.kids.length=3:=by
 rw [Qx,locB,Bool.and_eq_true,Bool.and_eq_true,Ysa,h] at hp;have hf:kidsB t [expK,memK [10],memK [10,18,9]]=true:=hp.1.2;rw [kidsB,Bool.and_eq_true,decide_eq_true_eq] at hf;exact hf.1
theorem Qhd{t:Nd}{i:Nat}(h:i<t.kids.length):(t.kids.map foldT).getD i nd0=foldT (Zb t i):=by
 rw [Wg h];simp [List.getD_eq_getElem?_getD,List.getElem?_eq_getElem h]
def valO(t:Nd):Option Cst:=bif (valC t).2 then some (valC t).1 else none
def oneO(t:Nd)(x:Option Cst):Option Cst:=match x with
 | some c=>bif decide (t.text=[45]) && !c.1 then some (false,IntKind.i64.wrap (0-c.2)) else bif decide (t.text=[33])&&c.1 then some (true,IntKind.i64.wrap (1-c.2)) else none
 | none=>none
def twoO(op:List UInt8)(x y:Option Cst):Option Cst:=match x,y with
 | some a,some b=>bif a.1 == b.1 then (bif (binF op a b).2 then some (binF op a b).1 else none) else none
 | _,_=>none
def oF(t:Nd)(r:Nat→Option Cst):Option Cst :=
 bif decide (t.kind=24) then (bif (decide (0≤t.num)&&plainB t)&&lenK t 0 then some (false,t.num) else none)
 else bif decide (t.kind=25) then (bif ((decide (t.num=0) || decide (t.num=1))&&plainB t)&&lenK t 0 then some (true,t.num) else none)
 else bif decide (t.kind=31)&&lenK t 1 then oneO t (r 0)
 else bif decide (t.kind=32)&&lenK t 2 then twoO t.text (r 0) (r 1)
 else none
theorem Udg(t:Nd):valO t=oF t fun i=>valO (Zb t i):=by
 rw [valO,Ubg,valF,oF]
 cases decide (t.kind=24) with
 | true=>rfl
 | false =>
 cases decide (t.kind=25) with
 | true=>rfl
 | false =>
 cases decide (t.kind=31)&&lenK t 1 with
 | true =>
  simp only [cond_true,cond_false,valO,oneO]
  cases (valC (Zb t 0)).2 with
  | false=>rfl
  | true =>
   simp only [Bool.true_and,cond_true];cases decide (t.text=[45]) <;> cases decide (t.text=[33]) <;> cases (valC (Zb t 0)).1.1 <;> rfl
 | false =>
 cases decide (t.kind=32)&&lenK t 2 with
 | true =>
  simp only [cond_true,cond_false,valO,twoO];cases (valC (Zb t 0)).2 <;> cases (valC (Zb t 1)).2 <;> first|rfl|skip
  simp only [Bool.true_and,cond_true];cases (valC (Zb t 0)).1.1 == (valC (Zb t 1)).1.1 <;> rfl
 | false=>rfl
theorem valO_iff{t:Nd}{c:Cst}:valO t=some c↔(valC t).2=true∧(valC t).1=c:=by
 rw [valO];cases (valC t).2 <;> simp
theorem Wzf{t:Nd}{c:Cst}(h:valO t=some c):t.kind=24∨t.kind=25∨(t.kind=31∧t.kids.length=1)∨(t.kind=32∧t.kids.length=2):=by
 rw [Udg,oF] at h;by_cases h1:t.kind=24;exact .inl h1;by_cases h2:t.kind=25;exact .inr (.inl h2);rw [Yvh h1,Yvh h2] at h
 cases h3:decide (t.kind=31)&&lenK t 1 with
 | true =>
  rw [Bool.and_eq_true,decide_eq_true_eq] at h3;exact .inr (.inr (.inl ⟨h3.1,by (have hz:=h3.2;first|(unfold lenK at hz;simp at hz;omega)|(simp at hz;omega))⟩))
 | false =>
  cases h4:decide (t.kind=32)&&lenK t 2 with
  | true =>
   rw [Bool.and_eq_true,decide_eq_true_eq] at h4;exact .inr (.inr (.inr ⟨h4.1,by (have hz:=h4.2;first|(unfold lenK at hz;simp at hz;omega)|(simp at hz;omega))⟩))
  | false=>rw [h3,h4] at h;cases h
/-! replaced constants -/
/-! folded trees, case by case -/
def rebT(t:Nd):Nd:=.mk t.kind t.text (bif decide (t.kind=24) || decide (t.kind=25) then t.num else 0) t.pos (t.kids.map foldT) ty0 0 0
def blP(pos:Int):Nd:=.mk 10 [] 0 pos [] ty0 0 0
theorem Jle{t:Nd}(hp:permF t=true) :
 (∃ c,valO t=some c∧(replT c t.pos).2=true∧foldT t=(replT c t.pos).1)∨
 (t.kind=18∧t.kids.length=3∧valO (Zb t 0)≠none∧(foldT t=foldT (Zb t 1)∨((Zb t 2).kind=9∧foldT t=blP t.pos)∨((Zb t 2).kind≠9∧foldT t=foldT (Zb t 2))))∨
 ((∀ c,valO t=some c→(replT c t.pos).2=false)∧(t.kind=18→valO (Zb t 0)=none)∧foldT t=rebT t):=by
 cases h1:(valC t).2&&(replT (valC t).1 t.pos).2 with
 | true =>
  rw [Bool.and_eq_true] at h1;exact .inl ⟨(valC t).1,valO_iff.2 ⟨h1.1,rfl⟩,h1.2,by rw [Wdd,foldF,h1.1,h1.2];rfl⟩
 | false =>
  have hn:∀ c,valO t=some c→(replT c t.pos).2=false:=fun c hc=>by
   obtain ⟨e1,e2⟩:=valO_iff.1 hc;rw [← e2];rw [e1] at h1;exact h1
  cases h2:decide (t.kind=18)&&(valC (Zb t 0)).2 with
  | true =>
   have h2':=h2;rw [Bool.and_eq_true,decide_eq_true_eq] at h2';have hl:=Ucg h2'.1 hp;refine .inr (.inl ⟨h2'.1,hl,by rw [valO,h2'.2];exact Option.some_ne_none _,?_⟩);rw [Wdd t,foldF,h1,h2];simp only [cond_true,cond_false];rw [Qhd (show 1<t.kids.length by omega),Qhd (show 2<t.kids.length by omega)]
   cases decide ((valC (Zb t 0)).1.2=1) with
   | true=>exact .inl rfl
   | false =>
    simp only [cond_false];by_cases h9:(Zb t 2).kind=9;rw [Ywh h9];exact .inr (.inl ⟨h9,rfl⟩);rw [Yvh h9];exact .inr (.inr ⟨h9,rfl⟩)
  | false =>
   refine .inr (.inr ⟨hn,fun h=>?_,by rw [Wdd,foldF,h1,h2];rfl⟩);rw [Ywh h,Bool.true_and] at h2;rw [valO,h2];rfl
theorem Vaf{t:Nd}(h1:t.kind≠24)(h2:t.kind≠25)(h3:t.kind≠31)(h4:t.kind≠32):valO t=none:=by
 cases h:valO t with
 | none=>rfl
 | some c=>rcases Wzf h with e|e|e|e <;> first|exact absurd e (by assumption)|exact absurd e.1 (by assumption)
theorem Zug{t:Nd}(hp:permF t=true)(h1:valO t=none)(h2:t.kind≠18):foldT t=rebT t:=by
 rcases Jle hp with ⟨c,h,_⟩|⟨h,_⟩|⟨_,_,e⟩;rw [h1] at h;cases h;exact absurd h h2;exact e
/-! errors -/
theorem Zvg{a e:Int}{S:CSt}(he:e≠0):(failS a e S).ee≠0:=by
 unfold failS;by_cases h:S.ee=0;rw [Ywh h];exact he;rw [Yvh h];exact h
theorem fu{b:Bool}{a e:Int}{S:CSt}(h:(failU b a e S).ee=0)(he:e≠0:=by decide):b=true∧S.ee=0:=by
 cases b;exact absurd h (Zvg he);exact ⟨rfl,h⟩
/-! states that are alike but for numbers -/
def vk(v:Vr):List UInt8×Ty×Nat×Nat:=(v.name,v.typ,v.level,v.scope)
structure Sim (S T:CSt):Prop where
  vars:T.vars.map vk=S.vars.map vk
  scope:T.scope=S.scope
  level:T.level=S.level
  result:T.result=S.result
  es:S.ee=0
  et:T.ee=0
  sc:Sc S
theorem Qid(sc:Nat)(l:List Vr):(dropV sc l).map vk=((l.map vk).reverse.dropWhile fun k=>decide (k.2.2.2=sc)).reverse:=by
 unfold dropV;rw [List.map_reverse,← List.map_reverse (l:=l),List.dropWhile_map];rfl
theorem Vje(S:CSt)(s:List UInt8):dupV S s=(S.vars.map vk).any fun k=>decide (k.2.2.2=S.scope)&&decide (k.1=s):=by
 rw [dupV,List.any_map];rfl
theorem Sim.open{S T:CSt}(h:Sim S T):Sim (openS S) (openS T):=⟨h.vars,congrArg (· + 1) h.scope,h.level,h.result,h.es,h.et,Voc h.sc⟩
theorem Sim.shut{S T:CSt}(h:Sim S T)(hs:Sc (shutS S)):Sim (shutS S) (shutS T) :=
 ⟨by show (dropV _ _).map vk=(dropV _ _).map vk;rw [Qid,Qid,h.vars,h.scope],congrArg (· - 1) h.scope,h.level,h.result,h.es,h.et,hs⟩
theorem Sim.lit{S T:CSt}(h:Sim S T):Sim (litS S) (litS T):=⟨h.vars,h.scope,congrArg (· + 1) h.level,rfl,h.es,h.et,h.sc⟩
theorem Sim.failu{S T:CSt}{b b':Bool}{a a' e e':Int}(h:S.ee=0→Sim S T)(hb:b=true→b'=true)(hz:(failU b a e S).ee=0)(he:e≠0:=by decide):Sim (failU b a e S) (failU b' a' e' T):=by
 obtain ⟨h1,h2⟩:=fu hz he;rw [h1,hb h1];exact h h2
theorem Sim.dup{S T:CSt}(h:Sim S T)(s:List UInt8):dupV T s=dupV S s:=by rw [Vje,Vje,h.vars,h.scope]
theorem Sim.decl{S T:CSt}(h:S.ee=0→Sim S T)(s:List UInt8)(y:Ty)(a a':Int)(hz:(declS s y a S).ee=0):Sim (declS s y a S) (declS s y a' T):=by
 obtain ⟨h1,h2⟩:=fu (b:=!dupV S s) (a:=a) (e:=6) (S:=S) hz;have h:=h h2;have h3:(!dupV T s)=true:=by rw [h.dup];exact h1
 have hs:=(Vnc s y a S).sc h.sc;unfold declS at hs ⊢;rw [h1] at hs ⊢;rw [h3];refine ⟨?_,h.scope,h.level,h.result,h.es,h.et,hs⟩;show (T.vars++[_]).map vk=(S.vars++[_]).map vk;rw [List.map_append,List.map_append,h.vars];show _++[(s,y,T.level,T.scope)]=_++[(s,y,S.level,S.scope)];rw [h.level,h.scope]
theorem Sim.frame{S T U V:CSt}{d d':Nat}(h:Sim S T)(h1:Vs S U)(h2:Stp d S U)(h3:U.ee=0)(k1:Vs T V)(k2:Stp d' T V)(k3:V.ee=0):Sim U V :=
 ⟨by rw [k1.vars,h1.vars,h.vars],by rw [k1.scope,h1.scope,h.scope],by rw [k2.level,h2.level,h.level],by rw [k2.result,h2.result,h.result],h3,k3,h1.sc h.sc⟩
/-! nodes that are alike -/
structure XR (x y:Nd):Prop where
  ty:y.ty=x.ty
  ref:y.ref=x.ref
  kd:y.kind=x.kind∨(x.kind≠27∧x.kind≠28∧x.kind≠29)
def SEx(c c':Ck):Prop:=∀ S T,Sim S T→(c.ex S).2.ee=0→Sim (c.ex S).2 (c'.ex T).2∧XR (c.ex S).1 (c'.ex T).1
def SMem(c c':Ck):Prop:=∀ S T,Sim S T→(c.mem S).2.ee=0→Sim (c.mem S).2 (c'.mem T).2∧(c'.mem T).1.2=(c.mem S).1.2∧(c'.mem T).1.1.ty=(c.mem S).1.1.ty
def SRcv(c c':Ck):Prop:=∀ S T,Sim S T→((c.rcv S).2=true→(c'.rcv T).2=true∧(c'.rcv T).1.ty=(c.rcv S).1.ty)∧((c.rcv S).2=false→(c.ex S).2.ee=0→(c'.rcv T).2=false)
def SCal(c c':Ck):Prop:=∀ S T,Sim S T→(c.cal S).2.ee=0→Sim (c.cal S).2 (c'.cal T).2∧(c'.cal T).1.2=(c.cal S).1.2
def SSt(c c':Ck):Prop:=∀ S T,Sim S T→(c.st S).2.ee=0→Sim (c.st S).2 (c'.st T).2
def SSts(c c':Ck):Prop:=∀ S T,Sim S T→(c.sts S).2.ee=0→Sim (c.sts S).2 (c'.sts T).2
def SCas(c c':Ck):Prop:=∀ f S T,Sim S T→(c.cas f S).2.ee=0→Sim (c.cas f S).2 (c'.cas f T).2
def elsR(k:Int)(c:Ck)(S:CSt):CSt:=bif decide (k=10) then (c.blk S).2 else bif decide (k=18) then (c.ifs S).2 else S
def SEls(k k':Int)(c c':Ck):Prop:=∀ S T,Sim S T→(elsR k c S).ee=0→Sim (elsR k c S) (elsR k' c' T)
structure FR (k k':Int) (c c':Ck):Prop where
  ex:expK k=true→SEx c c'
  mem:k=28→SMem c c'
  rcv:expK k=true→SRcv c c'
  cal:expK k=true→SCal c c'
  st:stK k=true→SSt c c'
  sts:k=10→SSts c c'
  cas:k=23→SCas c c'
  els:k=10∨k=18∨k=9→SEls k k' c c'
/-! declarations of the folded file -/
structure FOk (F:Nd):Prop where
  kind:F.kind=1
  perm:permF F=true
  ok:okNd F
theorem FOk.reb{F:Nd}(H:FOk F):foldT F=rebT F:=Zug H.perm (Vaf (by rw [H.kind];decide) (by rw [H.kind];decide) (by rw [H.kind];decide) (by rw [H.kind];decide)) (by rw [H.kind];decide)
theorem FOk.kids{F:Nd}(H:FOk F):(foldT F).kids=F.kids.map foldT:=by rw [H.reb];rfl
/-! shapes of declarations -/
theorem Uqa{t:Nd}(hp:permF t=true):(Ysa t&&t.kids.all permF)=true:=by
 rw [Qx,locB,Bool.and_eq_true,Bool.and_eq_true] at hp;exact Bool.and_eq_true_iff.2 ⟨hp.1.2,hp.2⟩
theorem Ybe{t:Nd}(h:typK t.kind=true)(hp:permF t=true):isTypeB t=true:=by rw [Wyb,h,hp];rfl
theorem Ueg{t:Nd}(h:t.kind=9)(hp:permF t=true):noneB t=true:=by rw [Zbb,Ywh h,hp];rfl
theorem pf4{t:Nd}(h:t.kind=4)(hp:permF t=true):t.kids.length=3∧((Zb t 0).kind=5∧permF (Zb t 0)=true)∧(isTypeB (Zb t 1)=true∨noneB (Zb t 1)=true)∧((Zb t 2).kind=10∧permF (Zb t 2)=true):=by
 have hf:=Uqa hp;rw [Ysa,h] at hf;have hf:(kidsB t [memK [5],fun k=>typK k || memK [9] k,memK [10]]&&t.kids.all permF)=true:=hf;rw [Qpe] at hf;simp only [Bool.and_eq_true,Zna,decide_eq_true_eq,Bool.or_eq_true] at hf;refine ⟨by have:=hf.1;(have hz:=this;first|(unfold lenK at hz;simp at hz;omega)|(simp at hz;omega)),hf.2.1.1,?_,hf.2.2⟩;rcases hf.2.1.2.1 with q|q;exact .inl (Ybe q hf.2.1.2.2);exact .inr (Ueg q hf.2.1.2.2)
theorem pf6{t:Nd}(h:t.kind=6)(hp:permF t=true):t.kids.length=2∧isTypeB (Zb t 0)=true∧permF (Zb t 1)=true:=by
 have hf:=Uqa hp;rw [Ysa,h] at hf;have hf:(kidsB t [typK,fun k=>expK k || memK [9] k]&&t.kids.all permF)=true:=hf;rw [Zhe] at hf;simp only [Bool.and_eq_true] at hf;exact ⟨by have:=hf.1;(have hz:=this;first|(unfold lenK at hz;simp at hz;omega)|(simp at hz;omega)),Ybe hf.2.1.1 hf.2.1.2,hf.2.2.2⟩
theorem pf3{t:Nd}(h:t.kind=3)(hp:permF t=true):t.kids.length=1∧isTypeB (Zb t 0)=true:=by
 have hf:=Uqa hp;rw [Ysa,h] at hf;have hf:(kidsB t [typK]&&t.kids.all permF)=true:=hf;rw [Qoe] at hf;simp only [Bool.and_eq_true] at hf;exact ⟨by have:=hf.1;(have hz:=this;first|(unfold lenK at hz;simp at hz;omega)|(simp at hz;omega)),Ybe hf.2.1 hf.2.2⟩
theorem Xrb{t:Nd}(h:t.kind=2∨t.kind=5)(hp:permF t=true):∀ f∈t.kids,f.kind=3∧permF f=true:=by
 have hf:=Uqa hp;have hf:(everyB t (memK [3])&&t.kids.all permF)=true:=by rcases h with h|h <;> (rw [Ysa,h] at hf;exact hf)
 rw [Bool.and_eq_true,everyB,List.all_eq_true,List.all_eq_true] at hf;intro f hm;have:=hf.1 f hm;rw [Zna,decide_eq_true_eq] at this;exact ⟨this,hf.2 f hm⟩
/-! what the declarations tell -/
section
variable {F t:Nd} {x:Nat→Ck} (S:CSt)
end
theorem FR.blk{k k':Int}{c c':Ck}(h:FR k k' c c')(hk:k=10)(hk':k'=10):∀ S T,Sim S T→(c.blk S).2.ee=0→Sim (c.blk S).2 (c'.blk T).2:=by
 subst hk hk';exact h.els (.inl rfl)
theorem Sim.want{S T:CSt}{a b:Nd}{k p p':Int}(h:S.ee=0→Sim S T)(hy:b.ty=a.ty)(hz:(wantS a k p S).ee=0):Sim (wantS a k p S) (wantS b k p' T):=by
 unfold wantS at hz ⊢;exact Sim.failu h (by rw [hy];exact id) hz
/-! constants -/
section
variable {F t:Nd} {x x':Nat→Ck}
/-! statements -/
end
/-! statements that end -/
theorem Zhh{t:Nd}(h:t.kind=10):(endT t).1=(endT t).2:=by rw [Zac];unfold endP;rw [h];rfl
theorem Zwg(t:Nd)(i:Nat)(h:i<t.kids.length):(t.kids.map endT).getD i (false,false)=endT (Zb t i):=by
 rw [Wg h];simp [List.getD_eq_getElem?_getD,List.getElem?_eq_getElem h]
theorem Zxg{l:List Nd}(hl:l≠[]):((l.map endT).getLast?.getD (false,false))=endT (l.getLast hl):=by
 rw [List.getLast?_map,List.getLast?_eq_some_getLast hl];rfl
theorem Zih{t:Nd}(h:t.kind=18)(hl:t.kids.length=3):(endT t).1=((endT (Zb t 1)).2&&((decide ((Zb t 2).kind=10)&&(endT (Zb t 2)).2) || (decide ((Zb t 2).kind=18)&&(endT (Zb t 2)).1))):=by
 rw [Zac];unfold endP;rw [h];show (((t.kids.map endT).getD 1 (false,false)).2&&((decide ((Zb t 2).kind=10)&&((t.kids.map endT).getD 2 (false,false)).2) || (decide ((Zb t 2).kind=18)&&((t.kids.map endT).getD 2 (false,false)).1)))=_;rw [Zwg t 1 (by omega),Zwg t 2 (by omega)]
/-! names -/
section
variable {F:Nd}
end
set_option maxHeartbeats 2000000
def lT(l:List Nd):Nd:=.mk 0 [] 0 0 l ty0 0 0
theorem Vbf{l:List Nd}(h:0<l.length):endsL l=(endT (Zb (lT l) (l.length-1))).1∧Zb (lT l) (l.length-1)∈l:=by
 have hl:l≠[]:=by intro e;subst e;simp at h
 have e:Zb (lT l) (l.length-1)=l.getLast hl:=by
  rw [Wg (show l.length-1<(lT l).kids.length from (by show _<l.length;omega)),List.getLast_eq_getElem];rfl
 rw [e];exact ⟨by unfold endsL;rw [Zxg hl],List.getLast_mem hl⟩
theorem Vud{l:List Nd}{t:Nd}(h:t∈l):count t≤(l.map count).sum:=by
 have h1:=Ji (t:=lT l) (k:=t) h;rw [Uw (lT l)] at h1;have:(lT l).kids=l:=rfl;rw [this] at h1;omega
theorem Jmb(t:Nd):(t.kids.map count).sum<count t:=by rw [Uw t];omega
theorem Zyg(t:Nd):endsL [t]=(endT t).1:=rfl
theorem Zzg{k:Nd}(h:blockB k=true∨ifB k=true∨noneB k=true)(e:k.kind=10):blockB k=true :=
 h.elim id fun h=>h.elim (fun h=>absurd (of_decide_eq_true (Bool.and_eq_true_iff.1 h).1) (by omega)) fun h=>absurd (Xya h).1 (by omega)
theorem Yag{k:Nd}(h:blockB k=true∨ifB k=true∨noneB k=true)(e:k.kind=18):stmtB k=true:=by
 have h1:ifB k=true:=h.elim (fun h=>absurd (Zeb h) (by omega)) fun h=>h.elim id fun h=>absurd (Xya h).1 (by omega);have h1:=Bool.and_eq_true_iff.1 h1;have h2:=of_decide_eq_true h1.1;unfold stmtB;rw [h2,h1.2];decide
theorem Vke(n:Nat):∀ (l:List Nd) (v:Value) (D:Nat→Prop) (w:World),Kd w D l v→l.all stmtB=true→(l.map count).sum<n→n≤1000001→Ret PP Xde #[v] w fun r w'=>r = .bool (endsL l)∧G w w':=by
 induction n with
 | zero=>intro l v D w _ _ h _;omega
 | succ n ih =>
 intro l v D w hk0 hl hc hn;obtain ⟨p,c,rfl,_⟩:=id hk0
 have hln:l.length≤1000000:=by
  have:=Up (lT l);rw [Uw (lT l)] at this;have h2:(lT l).kids=l:=rfl;rw [h2] at this;omega
 have g:=G.refl w;refine WK 63 [0] Vcd ?_;refine IF (fun h1=>?_) fun h1=>?_;replace h1:l=[]:=List.eq_nil_of_length_eq_zero (by have:=of_decide_eq_true h1;omega);subst h1;refine Zj (Zm (Yo O (Ze (kq (Xd (Vy O O ?_))))));exact ⟨rfl,g⟩;replace h1:0<l.length:=by have:=of_decide_eq_false h1;omega
 obtain ⟨t,et⟩:∃ t,t=Zb (lT l) (l.length-1):=⟨_,rfl⟩;obtain ⟨e0,pt,ct,hcell,hkid⟩:=Yk (t:=lT l) hk0 (i:=l.length-1) (by show _<l.length;omega);rw [← et] at hcell hkid;obtain ⟨eE,hm⟩:=Vbf h1;rw [← et] at eE hm;have ht:=List.all_eq_true.1 hl _ hm;have hct:=Vud hm;have eN:((l.length:Int)-1).toNat=l.length-1:=by omega
 refine Ya (kq (Zj (Zm (Zq O (Zq O (Xla Zd O (Zo O (fun _=>Jja (Zc O) Xg (fun _=>by omega)) (Jm Zd O O (by omega) e0 (Vf Zh O O (by rw [eN];exact hcell.grow g) (AM fun _ _ _ _ g E=>?_))))))))));refine AS fun _ _ _ g E=>?_;refine IF (fun h2=>?_) fun h2=>?_;replace h2:t.kind=20:=of_decide_eq_true h2;refine RTN ?_;exact ⟨by rw [eE,Zac];unfold endP;rw [h2];rfl,g⟩;replace h2:t.kind≠20:=of_decide_eq_false h2;refine Zj (Zm (Zwa O O (Yo O (Ze (kq (Wm O (fun h3=>?_) (fun h3=>?_)))))));replace h3:t.kind=19:=of_decide_eq_true h3;have hl2:=(sh19 h3 ht).1;obtain ⟨e1,p1,c1,hc1,hk1⟩:=Yk hkid (i:=0) (by omega);refine Zj (Zm (Yj Zg O (Yq Zf O (E.g0.at_ O) (Jm Zd O O (by omega) e1 (Yj Xm O (Yq Yd O ((hc1.grow g).one (i:=0) O) (Zwa O O (Yo O (Ze (kq (Xd (Vy O O ?_))))))))))));exact ⟨by rw [eE,Zac];unfold endP;rw [h3];rfl,g⟩;replace h3:t.kind≠19:=of_decide_eq_false h3;refine IF (fun h4=>?_) fun h4=>?_;replace h4:t.kind=10:=of_decide_eq_true h4;refine AU ?_;refine CP (ih _ _ D _ (hkid.grow g) (sh10 (sh10s h4 ht)) (by have:=Jmb t;omega) (by omega)) (fun w30 g30=>?_);have g:=g.trans g30;replace E:=E.grow g30;refine Yo O (Ze (kq (Xd (Vy O O ?_))));exact ⟨by rw [eE,Zhh h4,Qse],g⟩;replace h4:t.kind≠10:=of_decide_eq_false h4;refine Zj (Zm (Zwa O O (Yo O (Ze (kq (Wm O (fun h5=>?_) (fun h5=>?_)))))));replace h5:t.kind=18:=of_decide_eq_true h5;obtain ⟨hl3,_,hb1,hb2⟩:=sh18 (sh18s h5 ht);have hc3:=cn3 hl3;obtain ⟨e1,p1,c1,hc1,hk1⟩:=Yk hkid (i:=1) (by omega);obtain ⟨e2,p2,c2,hc2,hk2⟩:=Yk hkid (i:=2) (by omega);refine Zj (Zm (Yj Zg O (Yq Zf O (E.g0.at_ O) (Jm Zd O O (by omega) e2 (Vf Zh O O (hc2.grow g) (AN fun _ _ _ _ g E=>?_))))));refine AS fun _ _ _ g E=>?_
 refine Ze (kq (Zj (Zm (Yj Zg O (Yq Zf O (E.g1.at_ O) (Jm Zd O O (by omega) e1 (Yj Zg O (Yq Zf O ((hc1.grow g).one (i:=4) O) (Vh O (Yl Uzb Vi (aqc O aq0) O) (ih _ _ D _ (hk1.grow g) (sh10 hb1) (by have:=Jmb (Zb t 1);omega) (by omega)) (fun w42 g42=>?_))))))))));have g:=g.trans g42;replace E:=E.grow g42;refine AU ?_;refine CG (fun hc=>ih _ _ D _ (hk2.grow g) (sh10 (Zzg hb2 (of_decide_eq_true hc.2))) (by have:=Jmb (Zb t 2);omega) (by omega)) (fun w50 g50=>?_);have g:=g.trans g50;replace E:=E.grow g50;refine AU ?_;refine Xhd [_,_,_,_,_,_,_,_,_] O O O Zd Zu (Xt (Zk O id) (Vu)) O O ?_;intro b58 w58 g58 hB58;have g:=g.trans g58;replace E:=E.grow g58;refine CG (fun hc=>ih [Zb t 2] _ (fun _=>True) _ (Xk (ks:=[Zb t 2]) trivial (hB58 hc).row (Yc ((hk2.grow g).mono fun _ _ _=>trivial)) (Nat.le_refl _)) (by simp [Yag hb2 (of_decide_eq_true hc.2)]) (by show count (Zb t 2)+0<n;have:=Un (Zb t 1);omega) (by omega)) (fun w59 g59=>?_);have g:=g.trans g59;replace E:=E.grow g59;refine RTN ?_;exact ⟨by rw [eE,Zih h5 hl3,Qse,Qse,Zyg],g⟩;replace h5:t.kind≠18:=of_decide_eq_false h5;refine RTN ?_;exact ⟨by rw [eE,Zac];unfold endP;rw [Yvh h2,Yvh h3,Yvh h4,Yvh h5];rfl,g⟩
set_option maxHeartbeats 4000000
theorem Vle(F p:Nd)(S:CSt):∀ i,(parA F p S i).1.length=i
 | 0=>rfl
 | i+1=>by
  show ((parA F p S i).1++[_]).length=_;rw [List.length_append,Vle F p S i];rfl
theorem Vme(F p:Nd)(S:CSt):∀ i,Stp i S (parA F p S i).2
 | 0=>Stp.refl S
 | i+1=>((Vme F p S i).trans (Vgc _ _ _ _)).trans (Xpb _ _ _)
theorem Ufg(S:CSt):Bd (funS0 S) 0:=⟨Nat.le_refl _,Nat.le_refl _,fun k hk=>by
 have:k∈[0]:=hk;simp at this;omega,by show (0:Nat)<1;decide,Nat.le_refl _,fun v hv=>by cases hv⟩
theorem Ybg{S:CSt}{N:Nat}(h:Bd S N)(y:Ty):Bd { S with result:=y } N:=⟨h.vl,h.nl,h.nx,h.lv,h.sc,h.vs⟩
theorem Ycg(F p:Nd)(S:CSt)(i:Nat):Bd (parA F p (funS0 S) i).2 i:=by
 have:=(Vme F p (funS0 S) i).bd _ (Ufg S);rwa [Nat.zero_add] at this
theorem Ugg(F n:Nd)(S:CSt):Bd (funS2 F n S) (Zb n 0).kids.length:=by
 have h1:Bd (funS1 F n S) (Zb n 0).kids.length:=Ybg (Ycg F _ S _) _;unfold funS2;cases decide ((Zb n 1).kind=9);exact Ybg ((Xpb F (Zb n 1) (funS1 F n S)).bd _ h1) _;exact h1
theorem Uhg{F t:Nd}(H:FSh F)(hk4:t.kind=4)(hp:permF t=true){n0 b:Nat}{S:CSt}{w:World}{v:Value}(h:Chk F n0 b S w)(hkw:Kd w (fun k=>k<n0) t.kids v)(hcn:count t≤1000000) :
 Ret PP Wya #[.pointer (some ⟨b,0,none⟩),ndV t v] w fun r w'=>RetN (funR F t S).1 w.heap.size r w'∧Chk F n0 b (funR F t S).2 w'∧GT mutR n0 w w':=by
 obtain ⟨p,c,rfl,_⟩:=id hkw;obtain ⟨hl,⟨hk5,hp5⟩,ht1,hk10,hp10⟩:=pf4 hk4 hp;have hc3:=cn3 hl;have hb2:blockB (Zb t 2)=true:=by unfold blockB;rw [hk10,hp10];rfl
 have hk0:=hkw;have hlt:=h.lt;have hlq:=Up (Zb t 0);have hs2:CkM' 1000001 F Jq (Zb t 2) (ckT F (Zb t 2)).sts:=(Zmg H _ _ (Nat.le_refl _)).sts hb2;have hbd2:=Ugg F t S;obtain ⟨fv,sv,sn,h⟩:=h;have g:=GT.refl mutR n0 w;refine WK 136 [0,1] Zgb ?_;refine BM fun b3 _ ga _ g E=>?_;have h:=Ui h;have hk0:=Ui hk0;refine AN fun b4 _ ga _ g E=>?_;have h:=Ui h;have hk0:=Ui hk0;refine AU ?_;refine CL (Vn t _ _ _) ?_;rintro _ _ ⟨rfl,ga⟩;refine RC fun g E=>?_;have h:=Uk h;have hk0:=Uk hk0;refine AN fun b5 _ ga _ g E=>?_;have h:=Ui h;have hk0:=Ui hk0;refine AS fun _ ga Ca g E=>?_;have h:=Ub h;have hk0:=Ud hk0;refine AU ?_;refine Wy _ O Xda Yqd (pqc O pq0) O O ?_;intro b19 w19 N19;have l19:=Zza N19 g.size;have B19:=N19.blk;have g:=gtg g N19.g;replace E:=E.grow N19.g;have h:=h.grow (N19.g);have hk0:=hk0.grow (N19.g);refine AU ?_;refine Xi O Vm (Zc O) Xg O O h.B O O ?_;intro wA hgA hzA BA;replace E:=E.keepT hgA (h.B) rfl;have g:=Wu g hgA h.B rfl h.hb;have hk0:=hk0.keep hgA (fun k hk _ e=>by injection e with e;have:=h.hb;omega);have B19:=B19.keep hgA (by intro e;injection e with e;exact Zte B19 h.B rfl e);have h:=h.setv (S':={ S with vars:=[] }) (Xnc _ _) (show World.ownsRow _ n0 Xp 6 (.slice none 0 0) 0 [] from ⟨rfl,.inl ⟨rfl,rfl⟩⟩) hgA BA rfl;refine AU ?_;refine Xi O Va (Zc O) Xg O O h.B O O ?_;intro wB hgB hzB BB;replace E:=E.keepT hgB (h.B) rfl;have g:=Wu g hgB h.B rfl h.hb;have hk0:=hk0.keep hgB (fun k hk _ e=>by injection e with e;have:=h.hb;omega);have B19:=B19.keep hgB (by intro e;injection e with e;exact Zte B19 h.B rfl e);have h:=h.set (S':={ S with vars:=[],scope:=0 }) hgB BB rfl rfl;refine AU ?_;refine Xi O Va (Zc O) Xg O O h.B O O ?_;intro wC hgC hzC BC
 replace E:=E.keepT hgC (h.B) rfl;have g:=Wu g hgC h.B rfl h.hb;have hk0:=hk0.keep hgC (fun k hk _ e=>by injection e with e;have:=h.hb;omega);have B19:=B19.keep hgC (by intro e;injection e with e;exact Zte B19 h.B rfl e);have h:=h.set (S':={ S with vars:=[],scope:=0,level:=0 }) hgC BC rfl rfl;refine Ql O (Yj Wt O (Xi O Jsb (Zc O) (Zc O) O O h.B O O ?_));intro wD hgD hzD BD;replace E:=E.keepT hgD (h.B) rfl;have g:=Wu g hgD h.B rfl h.hb;have hk0:=hk0.keep hgD (fun k hk _ e=>by injection e with e;have:=h.hb;omega);have hb19:n0≤b19:=by have:=l19;omega
 have h:=(h.setn (S':=funS0 S) (Xnc _ _) (Zjf B19 hb19 rfl (by show 1≤1000000;decide)) hgD BD rfl).chk;refine Ze (kq (Zj (Zm (?_))));obtain ⟨e0,p0,c0,hcq,hkq⟩:=Yk hk0 (i:=0) (by omega);have hDp:pb p<n0:=Jba hk0 (show 0<t.kids.length by omega);refine Yj Zg O (Yq Zf O (E.g2.at_ O) (Jm Zd O O (by omega) e0 (Vf Zh O O hcq (CL (Vn (Zb t 0) _ _ _) ?_))));rintro _ _ ⟨rfl,ga⟩;refine RC fun g E=>?_;have h:=Uk h;have hcq:=Uk hcq;have hkq:=Uk hkq;have hk0:=Uk hk0;refine AN fun b6 _ ga _ g E=>?_;have h:=Ui h;have hcq:=Ui hcq;have hkq:=Ui hkq;have hk0:=Ui hk0;refine AS fun _ ga Ca g E=>?_;have h:=Ub h;have hcq:=Uh hcq;have hkq:=Ud hkq;have hk0:=Ud hk0;refine Ze (kq (Zj (Zj (Zm (Yo O (Ze (kq (Yv (?_)))))))));have hnd1:=E.1;refine We (fun (i:Nat) u1=>(i≤(Zb t 0).kids.length∧Chk F n0 b (parA F (Zb t 0) (funS0 S) i).2 u1∧∃ s,Blk u1 b6 Ys (ndCells (clnT (Zb t 0)) s)∧OwnN [b3,b4,b5,b6] w.heap.size u1 (parA F (Zb t 0) (funS0 S) i).1 s)∧GT mutR n0 w u1) _ [(0,True,_),(3,True,_),(4,True,_),(5,True,_),(6,True,_)] (fun (i:Nat)=>[(7,True,.int .i64 i)]) (fun (i:Nat)=>(Zb t 0).kids.length-i) (0) ⟨⟨Nat.zero_le _,h,_,E.g0,Wma _ _ _⟩,g⟩ (Zs (blkE E.g3) (Zs (blkE E.g2) (Zs (blkE E.g1) (Yh _)))) (Za O (Za O (Za O (Za O (Za O (Za O (Zp _))))))) ?_;clear E;rintro i u1 ⟨hI1,gl1⟩ ⟨B3,B4,B5,_⟩;replace B3:Blk _ _ _ _:=B3;replace B4:Blk _ _ _ _:=B4;replace B5:Blk _ _ _ _:=B5;have g:=gl1;obtain ⟨hi,h,s,B6,hO⟩:=hI1;obtain ⟨sa,sc,rfl⟩:=hO.slice;have hk0:=hkw.gt gl1 (fun k h=>h);obtain ⟨e0,p0,c0,hcq,hkq⟩:=Yk hk0 (i:=0) (by omega);obtain ⟨_,p1,c1,hc1,hk1⟩:=Yk hk0 (i:=1) (by omega);obtain ⟨_,p2,c2,hc2,hk2⟩:=Yk hk0 (i:=2) (by omega)
 have hlen:=Vle F (Zb t 0) (funS0 S) i;have E:=Zha (L:=[(b6,_,_),(b5,_,_),(b4,_,_),(b3,_,_)]) hnd1 ⟨B6,B5,B4,B3,trivial⟩ rfl;refine Zj (Zj (Zm (Zq O (Yj Zg O (Yq Zf O (E.g3.at_ O) (Jm Zd O O (by omega) e0 (Yj Zg O (Yq Zf O (hcq.one (i:=4) O) (Xla Zd O (Xka O O (Ze (kq (Wm O (fun h1=>?_) (fun h1=>?_))))))))))))));replace h1:i<(Zb t 0).kids.length:=by simp only [decide_eq_true_eq] at h1;omega
 obtain ⟨ef,pf,cf,hcf,hkf⟩:=Yk hkq (i:=i) h1;have hDq:pb p0<n0:=Jba hkq h1;have hmf:(Zb (Zb t 0) i)∈(Zb t 0).kids:=by rw [Wg h1];exact List.getElem_mem h1
 have hf3:=Xrb (.inr hk5) hp5 _ hmf;have hfl:=(pf3 hf3.1 hf3.2).1;have hcF:=Ju h1;obtain ⟨eg,pg,cg,hcg,hkg⟩:=Yk hkf (i:=0) (by omega);have hDf:pb pf<n0:=Jba hkf (show 0<(Zb (Zb t 0) i).kids.length by omega);have hbd:=Ycg F (Zb t 0) S i;refine Ya (kq (Zj (Yv (Zj (Zm (Yj Zg O (Yq Zf O (E.g3.at_ O) (Jm Zd O O (by omega) e0 (Yj Zg O (Yq Zf O (hcq.one (i:=4) O) (Zq O (Jm Zd O O (by omega) ef (Vf Zh O O hcf (AN fun b8 _ ga _ g E=>?_))))))))))))));have hO:=Uj hO;have h:=Ui h;have hcq:=Ui hcq;have hc1:=Ui hc1;have hc2:=Ui hc2;have hcf:=Ui hcf;have hcg:=Ui hcg;have hkf:=Ui hkf;refine AS fun _ ga Ca g E=>?_;have h:=Ub h;have hcq:=Uh hcq;have hc1:=Uh hc1;have hc2:=Uh hc2;have hcf:=Uh hcf;have hcg:=Uh hcg;have hkf:=Ud hkf;have hO:=Ue hO;refine AU ?_;refine CL (Vbb (Zb (Zb (Zb t 0) i) 0) _ _ _) ?_;rintro _ _ ⟨rfl,ga⟩;refine RC fun g E=>?_;have h:=Uk h;have hcq:=Uk hcq;have hc1:=Uk hc1;have hc2:=Uk hc2;have hcf:=Uk hcf;have hcg:=Uk hcg;have hkf:=Uk hkf;have hO:=Uk hO;refine AN fun b9 _ ga _ g E=>?_;have hO:=Uj hO;have h:=Ui h;have hcq:=Ui hcq;have hc1:=Ui hc1;have hc2:=Ui hc2;have hcf:=Ui hcf;have hcg:=Ui hcg;have hkf:=Ui hkf;refine AS fun _ ga Ca g E=>?_;have h:=Ub h;have hcq:=Uh hcq;have hc1:=Uh hc1;have hc2:=Uh hc2;have hcf:=Uh hcf;have hcg:=Uh hcg;have hkf:=Ud hkf;have hO:=Ue hO;refine AU ?_;have hOlt:=hO.lt;refine AU ?_;refine CL (Xza (Zb (Zb t 0) i) [b3,b4,b5,b6,b8,b9] hkf (by omega) (E.ltm (by simp [selB])) g.size) ?_;rintro _ _ ⟨⟨p60,c60,rfl,q60,k60⟩,ga⟩;refine RC fun g E=>?_;have h:=Uk h;have hcq:=Uk hcq;have hc1:=Uk hc1;have hc2:=Uk hc2;have hcf:=Uk hcf;have hcg:=Uk hcg;have hO:=Uk hO;rw [Xsa] at k60
 refine AN fun b11 _ ga _ g E=>?_;have hO:=Uj hO;have k60:=Uj k60;have h:=Ui h;have hcq:=Ui hcq;have hc1:=Ui hc1;have hc2:=Ui hc2;have hcf:=Ui hcf;have hcg:=Ui hcg;refine AS fun wS9 ga Ca g E=>?_;have h:=Ub h;have hcq:=Uh hcq;have hc1:=Uh hc1;have hc2:=Uh hc2;have hcf:=Uh hcf;have hcg:=Uh hcg;have k60:=Ua k60;have hO:=Ue hO;refine AU ?_
 have B11:Blk wS9 b11 Ys (ndCells (clnT (Zb (Zb t 0) i)) (.slice p60 ((Zb (Zb t 0) i).kids.map plainT).length c60)):=by
  have h:=E.g0;rw [Qhc,Xsa] at h;exact h
 replace E:=E.r0 B11;refine AS fun _ ga Ca g E=>?_;have h:=Ub h;have hcq:=Uh hcq;have hc1:=Uh hc1;have hc2:=Uh hc2;have hcf:=Uh hcf;have hcg:=Uh hcg;have k60:=Ua k60;have hO:=Ue hO;refine AU ?_;refine CL (Vea (Zb (Zb t 0) i).text (ofF (Zb (Zb (Zb t 0) i) 0)).1 (Zb (Zb t 0) i).pos h hbd (by omega)) ?_;rintro _ _ ⟨rfl,h,ga⟩;refine RC fun g E=>?_;have hcq:=hcq.gt ga hDp;have hc1:=hc1.gt ga hDp;have hc2:=hc2.gt ga hDp;have hcf:=hcf.gt ga hDq;have hcg:=hcg.gt ga hDf;have k60:=Ul k60;have hO:=hO.gt ga rfl;refine AS fun _ ga Ca g E=>?_;have h:=Ub h;have hcq:=Uh hcq;have hc1:=Uh hc1;have hc2:=Uh hc2;have hcf:=Uh hcf;have hcg:=Uh hcg;have k60:=Ua k60;have hO:=Ue hO;refine AU ?_;refine CL (Urc (Zb (Zb (Zb t 0) i) 0) _ _ h) ?_;rintro _ _ ⟨rfl,h,ga⟩;refine RC fun g E=>?_;have k60:=Ul k60;have hO:=hO.gt ga rfl;refine AU ?_;have hO:=hO.sub (Y:=[b3,b4,b5,b6]) (by intro j hj;simp at hj ⊢;omega);refine CN fun _ _ ga _ g E=>?_;have hO:=Uj hO;have k60:=Uj k60;have h:=Ui h;have hOo:=hO;refine Xx O Zd Zu O (Zc O) hO (Zc O) O E.g0.row (Qg (t:=.mk (Zb (Zb t 0) i).kind (Zb (Zb t 0) i).text (declN (parA F (Zb t 0) (funS0 S) i).2) (Zb (Zb t 0) i).pos ((Zb (Zb t 0) i).kids.map plainT) ty0 1 0) k60 q60 (by intro j hj;simp at hj ⊢;omega) (fun j hj=>.inr (hOlt j hj))) (by simp;omega) (by have:=g.size;omega) ⟨by have:=g.size;omega,by have q3:=E.g7.lt;have q4:=E.g6.lt;have q5:=E.g5.lt;have q6:=E.g4.lt;have q79:=E.g0.lt;simp;omega⟩ ?_;intro a80 c80 w80 hO hg80;replace E:=E.sel [true,false,false,false,true,true,true,true];replace E:=E.keepX hg80 hOo.ne (by simp [selB]);have g:=Ww g hg80 (fun k hk=>hOo.ge k hk);have h:=h.keepO hg80 hOo (by omega);refine AS fun _ ga Ca g E=>?_
 have h:=Ub h;have hO:=Ue hO;refine Ze (kq (Zm (Zq O (Qqa O O (by omega) (Yo O (Vc [(7,_,_),(0,_,_),(3,_,_),(4,_,_),(5,_,_),(6,_,_)] (Za O (Za O (Za O (Za O (Za O (Za O (Zp _))))))) (Ze (fun a ha=>?_))))))));have hO:=hO.sub (Y:=[b3,b4,b5,b6]) (by intro j hj;simp at hj ⊢;omega);exact ⟨i+1,ha,⟨⟨h1,h,_,E.g1,hO⟩,g⟩,(Zs (blkE E.g4) (Zs (blkE E.g3) (Zs (blkE E.g2) (Yh _)))),by omega⟩;replace h1:i=(Zb t 0).kids.length:=by simp only [decide_eq_false_iff_not] at h1;omega
 subst h1;refine Qs O (kq (Zj (Zm (?_))));obtain ⟨fv,sv,sn,h⟩:=h;refine Zq O (Zba Wn Ve pq0 O O (Ql O (Yj Zda O (Xi O Wi (Zc O) (Zc O) O O h.B O O ?_))));intro wE hgE hzE BE;replace E:=E.keepT hgE (h.B) rfl;have g:=Wu g hgE h.B rfl h.hb;have hcq:=Jb hcq hgE (by have:=h.hb;omega);have hc1:=Jb hc1 hgE (by have:=h.hb;omega);have hc2:=Jb hc2 hgE (by have:=h.hb;omega);have hk1:=hk1.keep hgE (fun k hk _ e=>by injection e with e;have:=h.hb;omega);have hk2:=hk2.keep hgE (fun k hk _ e=>by injection e with e;have:=h.hb;omega);have hO:=hO.keept hgE h.B rfl;have h:=h.set (S':=funS1 F t S) hgE BE rfl rfl;refine Ze (kq (Zj (Zj (Zm (Yj Zg O (Yq Zf O (E.g3.at_ O) (Jm Zd O O (by omega) e0 (Yj Xm O (Yq Yd O (hc1.one (i:=0) O) (Zud O O (Ze (kq (Wm O (fun h2=>?_) (fun h2=>?_))))))))))))));replace h2:decide ((Zb t 1).kind=9)=false:=by simpa using h2
 have eS:{ localS F (Zb t 1) (funS1 F t S) with result:=(ofF (Zb t 1)).1 }=funS2 F t S:=by unfold funS2;rw [h2];rfl
 refine AU ?_;refine CL (Urc (Zb t 1) _ _ h.chk) ?_;rintro _ _ ⟨rfl,hT,ga⟩;refine RC fun g E=>?_;have hcq:=hcq.gt ga hDp;have hc1:=hc1.gt ga hDp;have hc2:=hc2.gt ga hDp;have hk1:=Um hk1;have hk2:=Um hk2;have hO:=hO.gt ga rfl;obtain ⟨fv,sv,sn,h⟩:=hT;refine AU ?_;refine Xi O Wi (Zc O) (Zc O) O O h.B O O ?_;intro wG hgG hzG BG;replace E:=E.keepT hgG (h.B) rfl;have g:=Wu g hgG h.B rfl h.hb;have hcq:=Jb hcq hgG (by have:=h.hb;omega);have hc1:=Jb hc1 hgG (by have:=h.hb;omega);have hc2:=Jb hc2 hgG (by have:=h.hb;omega);have hk1:=hk1.keep hgG (fun k hk _ e=>by injection e with e;have:=h.hb;omega);have hk2:=hk2.keep hgG (fun k hk _ e=>by injection e with e;have:=h.hb;omega);have hO:=hO.keept hgG h.B rfl;have h:=h.set (S':={ localS F (Zb t 1) (funS1 F t S) with result:=(ofF (Zb t 1)).1 }) hgG BG rfl rfl;rw [eS] at h;have h:=h.chk;refine AU ?_;refine CL (CkC.to hs2 [b3,b4,b5,b6] h hk2 hbd2 (by omega) (E.ltm (by simp [selB])) g.size) ?_;rintro _ _ ⟨⟨p106,c106,rfl,q106,k106⟩,h,ga⟩;refine RC fun g E=>?_;have hcq:=hcq.gt ga hDp;have hc1:=hc1.gt ga hDp;have hc2:=hc2.gt ga hDp;have hk1:=Um hk1;have hk2:=Um hk2;have hO:=hO.gt ga rfl;refine AN fun b12 _ ga l12 g E=>?_;have hO:=Uj hO;have k106:=Uj k106;have h:=Ui h;have hcq:=Ui hcq;have hc1:=Ui hc1;have hc2:=Ui hc2;have hk1:=Ui hk1;have hk2:=Ui hk2;refine AS fun _ ga Ca g E=>?_;have h:=Ub h;have hcq:=Uh hcq;have hc1:=Uh hc1;have hc2:=Uh hc2;have hk1:=Ud hk1;have hk2:=Ud hk2;have k106:=Ua k106;have hO:=Ue hO
 refine Ze (kq (Zj (Zj (Zm (Yj Zg O (Yq Zf O (E.g4.at_ O) (Jm Zd O O (by omega) e0 (Yj Xm O (Yq Yd O (hc1.one (i:=0) O) (Zud O O (Zq O (Zi O O O (fun _=>Zn Zg (Zc O)) (Ye O O O (Zt Zf (Zk O id) (fun _=>E.g4.at_ O)) (Zi O O O (fun _=>Yz Zd (Zk O id) Xg (fun _=>by omega) (fun _=>e0)) (Zi O O O (fun _=>Zn Zg (Zk O id)) (Ye O O O (Zt Zf (Zk O id) (fun _=>hc2.one (i:=4) O)) (?_)))))))))))))))));refine Xy O O O (fun _=>(Yl Uzb Vi (Yr (Zk O id) (Xl)) O)) (fun hc=>Vke 1000001 _ _ _ _ hk2 (sh10 hb2) (by have:=Jmb (Zb t 2);omega) (Nat.le_refl _)) (fun w119 g119=>?_);have g:=gtg g g119;replace E:=E.grow g119;have h:=h.grow (g119);have hcq:=hcq.grow (g119);have hc1:=hc1.grow (g119);have hc2:=hc2.grow (g119);have hk1:=hk1.grow (g119);have k106:=k106.grow (g119);have hO:=hO.grow (g119);refine IF (fun h3=>?_) fun h3=>?_;have e3:(decide ((Zb t 1).kind=9) || endsL (Zb t 2).kids)=false:=by revert h3;cases decide ((Zb t 1).kind=9) <;> cases endsL (Zb t 2).kids <;> decide
 refine AU ?_;refine CL (Wh t.pos 7 h) ?_;rintro _ _ ⟨rfl,h,ga⟩;refine RC fun g E=>?_;have hcq:=hcq.gt ga hDp;have hc1:=hc1.gt ga hDp;have hc2:=hc2.gt ga hDp;have hk1:=Um hk1;have k106:=Ul k106;have hO:=hO.gt ga rfl;refine AU ?_;skip;refine Xe [0,3,0,3,0,1,0,1,3,2] [true,true,true,true,true,true,false,true,true,true] [0,0,2,6,14,30,0,127,255,511] mix (by kernel_rfl) ?_;have g:=gtd g;replace E:=E.dr;have h:=h.grow (G.drew _);have hcq:=hcq.grow (G.drew _);have hc1:=hc1.grow (G.drew _);have hc2:=hc2.grow (G.drew _);have hk1:=hk1.grow (G.drew _);have k106:=k106.grow (G.drew _);have hO:=hO.grow (G.drew _);have EC:=E;refine AU ?_;refine CL (Xza (Zb t 1) [b3,b4,b5,b6,b12] hk1 (by omega) (E.ltm (by simp [selB])) g.size) ?_;rintro _ _ ⟨⟨p131,c131,rfl,q131,k131⟩,ga⟩;refine RC fun g E=>?_;have h:=Uk h;have hcq:=Uk hcq;have hc1:=Uk hc1;have hc2:=Uk hc2;have k106:=Uk k106;have hO:=Uk hO;refine Qfa O (Zy Zh (Zc O) O (fun _=>EC.g0.row)) (CN fun _ _ ga l133 g E=>?_);have hO:=Uj hO;have k106:=Uj k106;have k131:=Uj k131;have h:=Ui h;have hcq:=Ui hcq;have hc1:=Ui hc1;have hc2:=Ui hc2;refine AS fun _ ga Ca g E=>?_;have h:=Ub h;have hcq:=Uh hcq;have hc1:=Uh hc1;have hc2:=Uh hc2;have k106:=Ua k106;have k131:=Ua k131;have hO:=Ue hO;refine AS fun _ ga Ca g E=>?_;have h:=Ub h;have hcq:=Uh hcq;have hc1:=Uh hc1;have hc2:=Uh hc2;have k106:=Ua k106;have k131:=Ua k131;have hO:=Ue hO;refine RTN ?_;have e:funR F t S=(annT t [annT (Zb t 0) (parA F (Zb t 0) (funS0 S) (Zb t 0).kids.length).1 ty0,plainT (Zb t 1),((ckT F (Zb t 2)).sts (funS2 F t S)).1] ty0,failU (decide ((Zb t 1).kind=9) || endsL (Zb t 2).kids) t.pos 7 ((ckT F (Zb t 2)).sts (funS2 F t S)).2):=rfl
 rw [e,e3];exact ⟨Zr (t:=annT t [annT (Zb t 0) (parA F (Zb t 0) (funS0 S) (Zb t 0).kids.length).1 ty0,plainT (Zb t 1),_] ty0) rfl (Xk (ks:=[annT (Zb t 0) (parA F (Zb t 0) (funS0 S) (Zb t 0).kids.length).1 ty0,plainT (Zb t 1),_]) ⟨l133,Xa E.g0⟩ E.g0.row (Xh hO.kd (Xh (k131.kdN q131) (Yc (k106.kdN q106)))) (Nat.le_refl _)),h,g⟩;have e3:(decide ((Zb t 1).kind=9) || endsL (Zb t 2).kids)=true:=by revert h3;cases decide ((Zb t 1).kind=9) <;> cases endsL (Zb t 2).kids <;> decide
 refine AU ?_;skip;refine Xe [0,3,0,3,0,1,0,1,3,2] [true,true,true,true,true,true,false,true,true,true] [0,0,2,6,14,30,0,127,255,511] mix (by kernel_rfl) ?_;have g:=gtd g;replace E:=E.dr;have h:=h.grow (G.drew _);have hcq:=hcq.grow (G.drew _);have hc1:=hc1.grow (G.drew _);have hc2:=hc2.grow (G.drew _);have hk1:=hk1.grow (G.drew _);have k106:=k106.grow (G.drew _);have hO:=hO.grow (G.drew _);have EC:=E;refine AU ?_;refine CL (Xza (Zb t 1) [b3,b4,b5,b6,b12] hk1 (by omega) (E.ltm (by simp [selB])) g.size) ?_;rintro _ _ ⟨⟨p131,c131,rfl,q131,k131⟩,ga⟩;refine RC fun g E=>?_;have h:=Uk h;have hcq:=Uk hcq;have hc1:=Uk hc1;have hc2:=Uk hc2;have k106:=Uk k106;have hO:=Uk hO;refine Qfa O (Zy Zh (Zc O) O (fun _=>EC.g0.row)) (CN fun _ _ ga l133 g E=>?_);have hO:=Uj hO;have k106:=Uj k106;have k131:=Uj k131;have h:=Ui h;have hcq:=Ui hcq;have hc1:=Ui hc1;have hc2:=Ui hc2;refine AS fun _ ga Ca g E=>?_;have h:=Ub h;have hcq:=Uh hcq;have hc1:=Uh hc1;have hc2:=Uh hc2;have k106:=Ua k106;have k131:=Ua k131;have hO:=Ue hO;refine AS fun _ ga Ca g E=>?_;have h:=Ub h;have hcq:=Uh hcq;have hc1:=Uh hc1;have hc2:=Uh hc2;have k106:=Ua k106;have k131:=Ua k131;have hO:=Ue hO;refine RTN ?_;have e:funR F t S=(annT t [annT (Zb t 0) (parA F (Zb t 0) (funS0 S) (Zb t 0).kids.length).1 ty0,plainT (Zb t 1),((ckT F (Zb t 2)).sts (funS2 F t S)).1] ty0,failU (decide ((Zb t 1).kind=9) || endsL (Zb t 2).kids) t.pos 7 ((ckT F (Zb t 2)).sts (funS2 F t S)).2):=rfl;rw [e,e3]
 exact ⟨Zr (t:=annT t [annT (Zb t 0) (parA F (Zb t 0) (funS0 S) (Zb t 0).kids.length).1 ty0,plainT (Zb t 1),_] ty0) rfl (Xk (ks:=[annT (Zb t 0) (parA F (Zb t 0) (funS0 S) (Zb t 0).kids.length).1 ty0,plainT (Zb t 1),_]) ⟨l133,Xa E.g0⟩ E.g0.row (Xh hO.kd (Xh (k131.kdN q131) (Yc (k106.kdN q106)))) (Nat.le_refl _)),h,g⟩;replace h2:decide ((Zb t 1).kind=9)=true:=by simpa using h2
 have eS:funS1 F t S=funS2 F t S:=by unfold funS2;rw [h2];rfl
 rw [eS] at h;have h:=h.chk;refine AU ?_;refine CL (CkC.to hs2 [b3,b4,b5,b6] h hk2 hbd2 (by omega) (E.ltm (by simp [selB])) g.size) ?_;rintro _ _ ⟨⟨p106,c106,rfl,q106,k106⟩,h,ga⟩;refine RC fun g E=>?_;have hcq:=hcq.gt ga hDp;have hc1:=hc1.gt ga hDp;have hc2:=hc2.gt ga hDp;have hk1:=Um hk1;have hk2:=Um hk2;have hO:=hO.gt ga rfl;refine AN fun b12 _ ga _ g E=>?_;have hO:=Uj hO;have k106:=Uj k106;have h:=Ui h;have hcq:=Ui hcq;have hc1:=Ui hc1;have hc2:=Ui hc2;have hk1:=Ui hk1;have hk2:=Ui hk2;refine AS fun _ ga Ca g E=>?_;have h:=Ub h;have hcq:=Uh hcq;have hc1:=Uh hc1;have hc2:=Uh hc2;have hk1:=Ud hk1;have hk2:=Ud hk2;have k106:=Ua k106;have hO:=Ue hO;refine Ze (kq (Zj (Zj (Zm (Yj Zg O (Yq Zf O (E.g4.at_ O) (Jm Zd O O (by omega) e0 (Yj Xm O (Yq Yd O (hc1.one (i:=0) O) (Zud O O (Zq O (Zi O O O (fun _=>Zn Zg (Zc O)) (Ye O O O (Zt Zf (Zk O id) (fun _=>E.g4.at_ O)) (Zi O O O (fun _=>Yz Zd (Zk O id) Xg (fun _=>by omega) (fun _=>e0)) (Zi O O O (fun _=>Zn Zg (Zk O id)) (Ye O O O (Zt Zf (Zk O id) (fun _=>hc2.one (i:=4) O)) (?_)))))))))))))))));refine Xy O O O (fun _=>(Yl Uzb Vi (Yr (Zk O id) (Xl)) O)) (fun hc=>Vke 1000001 _ _ _ _ hk2 (sh10 hb2) (by have:=Jmb (Zb t 2);omega) (Nat.le_refl _)) (fun w119 g119=>?_);have g:=gtg g g119;replace E:=E.grow g119;have h:=h.grow (g119);have hcq:=hcq.grow (g119);have hc1:=hc1.grow (g119);have hc2:=hc2.grow (g119);have hk1:=hk1.grow (g119);have k106:=k106.grow (g119);have hO:=hO.grow (g119);refine IF (fun h4=>?_) fun h4=>?_;have e3:(decide ((Zb t 1).kind=9) || endsL (Zb t 2).kids)=false:=by revert h4;cases decide ((Zb t 1).kind=9) <;> cases endsL (Zb t 2).kids <;> decide
 refine AU ?_;refine CL (Wh t.pos 7 h) ?_;rintro _ _ ⟨rfl,h,ga⟩;refine RC fun g E=>?_;have hcq:=hcq.gt ga hDp;have hc1:=hc1.gt ga hDp;have hc2:=hc2.gt ga hDp;have hk1:=Um hk1;have k106:=Ul k106;have hO:=hO.gt ga rfl;refine AU ?_;skip;refine Xe [0,3,0,3,0,1,0,1,3,2] [true,true,true,true,true,true,false,true,true,true] [0,0,2,6,14,30,0,127,255,511] mix (by kernel_rfl) ?_;have g:=gtd g;replace E:=E.dr;have h:=h.grow (G.drew _);have hcq:=hcq.grow (G.drew _);have hc1:=hc1.grow (G.drew _);have hc2:=hc2.grow (G.drew _);have hk1:=hk1.grow (G.drew _);have k106:=k106.grow (G.drew _);have hO:=hO.grow (G.drew _);have EC:=E;refine AU ?_;refine CL (Xza (Zb t 1) [b3,b4,b5,b6,b12] hk1 (by omega) (E.ltm (by simp [selB])) g.size) ?_;rintro _ _ ⟨⟨p131,c131,rfl,q131,k131⟩,ga⟩;refine RC fun g E=>?_;have h:=Uk h;have hcq:=Uk hcq;have hc1:=Uk hc1;have hc2:=Uk hc2;have k106:=Uk k106;have hO:=Uk hO;refine Qfa O (Zy Zh (Zc O) O (fun _=>EC.g0.row)) (CN fun _ _ ga l133 g E=>?_);have hO:=Uj hO;have k106:=Uj k106;have k131:=Uj k131;have h:=Ui h;have hcq:=Ui hcq;have hc1:=Ui hc1;have hc2:=Ui hc2;refine AS fun _ ga Ca g E=>?_;have h:=Ub h;have hcq:=Uh hcq;have hc1:=Uh hc1;have hc2:=Uh hc2;have k106:=Ua k106;have k131:=Ua k131;have hO:=Ue hO;refine AS fun _ ga Ca g E=>?_;have h:=Ub h;have hcq:=Uh hcq;have hc1:=Uh hc1;have hc2:=Uh hc2;have k106:=Ua k106;have k131:=Ua k131;have hO:=Ue hO;refine RTN ?_;have e:funR F t S=(annT t [annT (Zb t 0) (parA F (Zb t 0) (funS0 S) (Zb t 0).kids.length).1 ty0,plainT (Zb t 1),((ckT F (Zb t 2)).sts (funS2 F t S)).1] ty0,failU (decide ((Zb t 1).kind=9) || endsL (Zb t 2).kids) t.pos 7 ((ckT F (Zb t 2)).sts (funS2 F t S)).2):=rfl
 rw [e,e3];exact ⟨Zr (t:=annT t [annT (Zb t 0) (parA F (Zb t 0) (funS0 S) (Zb t 0).kids.length).1 ty0,plainT (Zb t 1),_] ty0) rfl (Xk (ks:=[annT (Zb t 0) (parA F (Zb t 0) (funS0 S) (Zb t 0).kids.length).1 ty0,plainT (Zb t 1),_]) ⟨l133,Xa E.g0⟩ E.g0.row (Xh hO.kd (Xh (k131.kdN q131) (Yc (k106.kdN q106)))) (Nat.le_refl _)),h,g⟩;have e3:(decide ((Zb t 1).kind=9) || endsL (Zb t 2).kids)=true:=by revert h4;cases decide ((Zb t 1).kind=9) <;> cases endsL (Zb t 2).kids <;> decide
 refine AU ?_;skip;refine Xe [0,3,0,3,0,1,0,1,3,2] [true,true,true,true,true,true,false,true,true,true] [0,0,2,6,14,30,0,127,255,511] mix (by kernel_rfl) ?_;have g:=gtd g;replace E:=E.dr;have h:=h.grow (G.drew _);have hcq:=hcq.grow (G.drew _);have hc1:=hc1.grow (G.drew _);have hc2:=hc2.grow (G.drew _);have hk1:=hk1.grow (G.drew _);have k106:=k106.grow (G.drew _);have hO:=hO.grow (G.drew _);have EC:=E;refine AU ?_;refine CL (Xza (Zb t 1) [b3,b4,b5,b6,b12] hk1 (by omega) (E.ltm (by simp [selB])) g.size) ?_;rintro _ _ ⟨⟨p131,c131,rfl,q131,k131⟩,ga⟩;refine RC fun g E=>?_;have h:=Uk h;have hcq:=Uk hcq;have hc1:=Uk hc1;have hc2:=Uk hc2;have k106:=Uk k106;have hO:=Uk hO;refine Qfa O (Zy Zh (Zc O) O (fun _=>EC.g0.row)) (CN fun _ _ ga l133 g E=>?_);have hO:=Uj hO;have k106:=Uj k106;have k131:=Uj k131;have h:=Ui h;have hcq:=Ui hcq;have hc1:=Ui hc1;have hc2:=Ui hc2;refine AS fun _ ga Ca g E=>?_;have h:=Ub h;have hcq:=Uh hcq;have hc1:=Uh hc1;have hc2:=Uh hc2;have k106:=Ua k106;have k131:=Ua k131;have hO:=Ue hO;refine AS fun _ ga Ca g E=>?_;have h:=Ub h;have hcq:=Uh hcq;have hc1:=Uh hc1;have hc2:=Uh hc2;have k106:=Ua k106;have k131:=Ua k131;have hO:=Ue hO;refine RTN ?_;have e:funR F t S=(annT t [annT (Zb t 0) (parA F (Zb t 0) (funS0 S) (Zb t 0).kids.length).1 ty0,plainT (Zb t 1),((ckT F (Zb t 2)).sts (funS2 F t S)).1] ty0,failU (decide ((Zb t 1).kind=9) || endsL (Zb t 2).kids) t.pos 7 ((ckT F (Zb t 2)).sts (funS2 F t S)).2):=rfl;rw [e,e3]
 exact ⟨Zr (t:=annT t [annT (Zb t 0) (parA F (Zb t 0) (funS0 S) (Zb t 0).kids.length).1 ty0,plainT (Zb t 1),_] ty0) rfl (Xk (ks:=[annT (Zb t 0) (parA F (Zb t 0) (funS0 S) (Zb t 0).kids.length).1 ty0,plainT (Zb t 1),_]) ⟨l133,Xa E.g0⟩ E.g0.row (Xh hO.kd (Xh (k131.kdN q131) (Yc (k106.kdN q106)))) (Nat.le_refl _)),h,g⟩
set_option maxHeartbeats 4000000
theorem Xqc{F:Nd}(h:validB F=true):F.kind=1∧permF F=true:=by
 unfold validB at h;simp only [Bool.and_eq_true] at h;unfold Qpf at h;simp only [Bool.and_eq_true,decide_eq_true_eq] at h;first|exact ⟨h.1.1,h.1.2⟩|exact ⟨h.1.2,h.1.1⟩|exact ⟨h.2.1,h.2.2⟩|exact ⟨h.1,h.2.1⟩|exact ⟨h.1,h.2.2⟩
theorem Wed{F:Nd}(h1:F.kind=1)(hp:permF F=true):∀ d∈F.kids,(d.kind=2∨d.kind=6∨d.kind=4)∧permF d=true:=by
 have hf:=Uqa hp;rw [Ysa,h1] at hf;have hf:((!(F.kids.any fileVarB)&&everyB F (memK [2,6,4]))&&F.kids.all permF)=true:=hf;simp only [Bool.and_eq_true,everyB,List.all_eq_true] at hf;intro d hm;have:=hf.1.2 d hm;simp only [memK,decide_eq_true_eq,List.mem_cons,List.not_mem_nil,or_false] at this;exact ⟨this,hf.2 d hm⟩
theorem Zjh{F:Nd}(h:validB F=true):FSh F:=by
 obtain ⟨h1,hp⟩:=Xqc h;have hd:=Wed h1 hp;refine ⟨fun d hm e=>?_,fun d hm e=>?_,fun d hm e f hf=>?_⟩;have:=(pf6 e (hd d hm).2).1;omega;have:=(pf4 e (hd d hm).2).1;omega;obtain ⟨_,⟨h5,hp5⟩,_⟩:=pf4 e (hd d hm).2;have q:=Xrb (.inr h5) hp5 f hf;have:=(pf3 q.1 q.2).1;omega
theorem Vne(F:Nd)(S:CSt):∀ i,(dclA F S i).1.length=i
 | 0=>rfl
 | i+1=>by
  show ((dclA F S i).1++[_]).length=_;rw [List.length_append,Vne F S i];rfl
theorem Ydg{F t:Nd}(Z:List Nat)(H:FSh F)(hk4:t.kind=4)(hp:permF t=true){n0 b m0:Nat}{S:CSt}{w:World}{v:Value}(h:Chk F n0 b S w)(hkw:Kd w (fun k=>k<n0) t.kids v)(hcn:count t≤1000000)(hZ:∀ j∈Z,j<w.heap.size)(hm:m0≤w.heap.size) :
 Ret PP Wya #[.pointer (some ⟨b,0,none⟩),ndV t v] w fun r w'=>(∃ p c,r=ndV (funR F t S).1 (.slice p (funR F t S).1.kids.length c)∧m0≤w.heap.size∧KdX w.heap.size Z w' (funR F t S).1.kids (.slice p (funR F t S).1.kids.length c))∧Chk F n0 b (funR F t S).2 w'∧GT mutR n0 w w' :=
 (Uhg H hk4 hp h hkw hcn).mono fun r w' hr=>by
 obtain ⟨⟨p,c,e,k⟩,h1,h2⟩:=hr;exact ⟨⟨p,c,e,hm,KdN.x k hZ⟩,h1,h2⟩
theorem Vcf(F:Nd)(v:Value)(D:Nat→Prop)(w:World)(hkD:Kd w D F.kids v)(hcn:count F≤1000000):Ret PP Qzd #[ndV F v] w fun r w'=>(∃ u,r = .tuple #[u,.int .i64 (refCheck F).2.1,.int .i64 (refCheck F).2.2]∧RetN (refCheck F).1 w.heap.size u w')∧G w w':=by
 obtain ⟨n0,hn0⟩:∃ n,n=w.heap.size:=⟨_,rfl⟩;have hkw:Kd w (fun k=>k<n0) F.kids v:=Kd.mono hkD fun k _ hlt=>by rw [hn0];exact hlt
 have hk0:=hkw;obtain ⟨p,c,rfl,_⟩:=id hkw;have hln:=Up F;have g:=GT.refl mutR n0 w;refine WK 139 [0] Ybd ?_;refine BM fun b1 w1 ga _ g E=>?_;have hk0:=Ui hk0;refine AN fun b2 _ ga _ g E=>?_;have hk0:=Ui hk0;refine AU ?_;refine CL (Wge F _ _ _ hk0 hcn) ?_;rintro _ _ ⟨rfl,ga⟩;refine RC fun g E=>?_;have hk0:=Uk hk0;refine IF (fun h1=>?_) fun h1=>?_;have hv:validB F=false:=by simpa using h1
 refine AS fun _ _ _ g E=>?_;refine RTN ?_;have er:refCheck F=(nd0,0,1):=by unfold refCheck;rw [hv];rfl
 rw [er];exact ⟨⟨_,rfl,Jyb nd0 _ _ rfl⟩,Juc (G.refl w) g (by omega)⟩;have hv:validB F=true:=by simpa using h1
 have H:=Zjh hv;obtain ⟨hF1,hFp⟩:=Xqc hv;have hdc:=Wed hF1 hFp;refine AU ?_;refine Via O (Zc O) O ?_;intro b20 w20 N20;have l20:=Zza N20 g.size;have B20:=N20.blk;have x20_1:=N20.ne E.g1;have x20_2:=N20.ne E.g0;have g:=gtg g N20.g;replace E:=E.grow N20.g;have hk0:=hk0.grow (N20.g);refine AU ?_;have h:Chk F n0 b20 rs0 _:=(⟨B20,by omega,hk0,hcn,⟨rfl,.inl ⟨rfl,rfl⟩⟩,⟨rfl,.inl ⟨rfl,rfl⟩⟩⟩:CK F n0 b20 rs0 (.slice p F.kids.length c) (.slice none 0 0) (.slice none 0 0) _).chk;have hlt:=l20;refine AU ?_;have hnd1:=E.1;refine We (fun (i:Nat) u1=>(i≤F.kids.length∧Chk F n0 b20 (namA F rs0 i) u1)∧GT mutR n0 w u1) _ [(1,True,_),(2,True,_),(3,True,_),(4,True,_),(5,True,_)] (fun (i:Nat)=>[(6,True,.int .i64 i)]) (fun (i:Nat)=>F.kids.length-i) (0) ⟨⟨Nat.zero_le _,h⟩,g⟩ (Zs (blkE E.g1) (Zs (blkE E.g0) (Yh _))) (Za O (Za O (Za O (Za O (Za O (Za O (Zp _))))))) ?_;clear E;rintro i u1 ⟨hI1,gl1⟩ ⟨B1,B2,_⟩;replace B1:Blk _ _ _ _:=B1;replace B2:Blk _ _ _ _:=B2;have g:=gl1;obtain ⟨hi,h⟩:=hI1;have E:=Zha (L:=[(b2,_,_),(b1,_,_)]) hnd1 ⟨B2,B1,trivial⟩ rfl;refine IF (fun h2=>?_) fun h2=>?_;replace h2:i<F.kids.length:=by simp only [decide_eq_true_eq] at h2;omega
 refine AU ?_;have hnd2:=E.1;refine We (fun (j:Nat) u2=>(j≤i∧Chk F n0 b20 (failU (!(F.kids.take j).any (smP F i)) (Zb F i).pos 6 (namA F rs0 i)) u2)∧GT mutR n0 w u2) _ [(1,True,_),(2,True,_),(3,True,_),(4,True,_),(5,True,_),(6,True,_)] (fun (j:Nat)=>[(7,True,.int .i64 j)]) (fun (j:Nat)=>i-j) (0) ⟨⟨Nat.zero_le _,h⟩,g⟩ (Zs (blkE E.g1) (Zs (blkE E.g0) (Yh _))) (Za O (Za O (Za O (Za O (Za O (Za O (Za O (Zp _)))))))) ?_;clear E;rintro j u2 ⟨hI2,gl2⟩ ⟨B1,B2,_⟩;replace B1:Blk _ _ _ _:=B1;replace B2:Blk _ _ _ _:=B2;have g:=gl2;obtain ⟨hj,h⟩:=hI2;have hk0:=hkw.gt gl2 (fun k h=>h);obtain ⟨ei,pi,ci,hci,hki⟩:=Yk hk0 (i:=i) h2;have E:=Zha (L:=[(b2,_,_),(b1,_,_)]) hnd2 ⟨B2,B1,trivial⟩ rfl;refine Zj (Zj (Zm (Zq O (Zq O (Xka O O (Ze (kq (Wm O (fun h3=>?_) (fun h3=>?_)))))))));replace h3:j<i:=by simp only [decide_eq_true_eq] at h3;omega
 obtain ⟨ej,pj,cj,hcj,hkj⟩:=Yk hk0 (i:=j) (by omega);have hst:=Qgd (show j<F.kids.length by omega) (smP F i);rw [← Wg] at hst;refine Ya (kq (Zj (Yv (Zj (Xe [3,0,3,3,3,0,3,0,3,3,3,0,3] [true,true,true,true,true,true,true,true,true,true,true,true,true] [0,1,0,7,15,31,0,64,0,448,960,1984,4095] mix (by kernel_rfl) ?_)))));have g:=gtd g;replace E:=E.dr;have h:=h.grow (G.drew _);have hk0:=hk0.grow (G.drew _);refine Yj Zg O (Yq Zf O (E.g1.at_ O) (Zq O (Jm Zd O O (by omega) ej (Yj Yn O (Yq Yg O ((hcj.grow (G.drew _)).one (i:=1) O) (Yj Zg O (Yq Zf O (E.g1.at_ O) (Zq O (Jm Zd O O (by omega) ei (Yj Yn O (Yq Yg O ((hci.grow (G.drew _)).one (i:=1) O) (Qsd O O (Ze (kq (Wm O (fun h4=>?_) (fun h4=>?_))))))))))))))));replace h4:smP F i (Zb F j)=true:=h4;obtain ⟨ei,pi,ci,hci,hki⟩:=Yk hk0 (i:=i) h2;refine Zm (Zq O (Yj Zg O (Yq Zf O (E.g1.at_ O) (Zq O (Jm Zd O O (by omega) ei (Yj Wia O (Yq Yd O (hci.one (i:=3) O) (CL (Wh (Zb F i).pos 6 h) ?_))))))));rintro _ _ ⟨rfl,h,ga⟩;refine RC fun g E=>?_;refine AU ?_;refine SK [7,1,2,3,4,5,6] ?_;refine Ze (fun a ha=>?_);exact ⟨j+1,ha,⟨⟨h3,by rw [hst,Vda (by decide),h4];exact h⟩,g⟩,(Zs (blkE E.g1) (Zs (blkE E.g0) (Yh _))),by omega⟩;replace h4:smP F i (Zb F j)=false:=h4;refine AU ?_;refine SK [7,1,2,3,4,5,6] ?_;refine Ze (fun a ha=>?_);exact ⟨j+1,ha,⟨⟨h3,by rw [hst,Vda (by decide),h4];exact h⟩,g⟩,(Zs (blkE E.g1) (Zs (blkE E.g0) (Yh _))),by omega⟩;replace h3:j=i:=by simp only [decide_eq_false_iff_not] at h3;omega
 subst h3;refine AU ?_;refine SK [6,1,2,3,4,5] ?_;refine Ze (fun a ha=>?_);exact ⟨j+1,ha,⟨⟨h2,h⟩,g⟩,(Zs (blkE E.g1) (Zs (blkE E.g0) (Yh _))),by omega⟩;replace h2:i=F.kids.length:=by simp only [decide_eq_false_iff_not] at h2;omega
 subst h2;refine AU ?_;have hk0:=hkw.gt gl1 (fun k h=>h);refine AU ?_;refine CL (Vn F _ _ _) ?_;rintro _ _ ⟨rfl,ga⟩;refine RC fun g E=>?_;have h:=Uk h;have hk0:=Uk hk0;refine AN fun b8 _ ga _ g E=>?_;have h:=Ui h;have hk0:=Ui hk0;refine AS fun _ ga Ca g E=>?_;have h:=Ub h;have hk0:=Ud hk0;refine AU ?_;have hnd3:=E.1;refine We (fun (i:Nat) u3=>(i≤F.kids.length∧Chk F n0 b20 (dclA F (namA F rs0 F.kids.length) i).2 u3∧∃ s,Blk u3 b8 Ys (ndCells (clnT F) s)∧OwnN [b1,b2,b8] w.heap.size u3 (dclA F (namA F rs0 F.kids.length) i).1 s)∧GT mutR n0 w u3) _ [(1,True,_),(2,True,_),(3,True,_),(4,True,_),(5,True,_),(8,True,_),(54,True,_),(55,True,_)] (fun (i:Nat)=>[(9,True,.int .i64 i)]) (fun (i:Nat)=>F.kids.length-i) (0) ⟨⟨Nat.zero_le _,h,_,E.g0,Wma _ _ _⟩,g⟩ (Zs (blkE E.g2) (Zs (blkE E.g1) (Yh _))) (Za O (Za O (Za O (Za O (Za O (Za O (Za O (Za O (Za O (Zp _)))))))))) ?_;clear E;rintro i u3 ⟨hI3,gl3⟩ ⟨B1,B2,_⟩;replace B1:Blk _ _ _ _:=B1;replace B2:Blk _ _ _ _:=B2;have g:=gl3;obtain ⟨hi,h,s,B8,hO⟩:=hI3;obtain ⟨sa,sc,rfl⟩:=hO.slice;have hk0:=hkw.gt gl3 (fun k h=>h);have hlen:=Vne F (namA F rs0 F.kids.length) i;have E:=Zha (L:=[(b8,_,_),(b2,_,_),(b1,_,_)]) hnd3 ⟨B8,B2,B1,trivial⟩ rfl;refine IF (fun h5=>?_) fun h5=>?_;replace h5:i<F.kids.length:=by simp only [decide_eq_true_eq] at h5;omega
 obtain ⟨e0,p1,c1,hcell,hkid⟩:=Yk hk0 (i:=i) h5;have hDp:pb p<n0:=Jba hk0 h5;have hmd:(Zb F i)∈F.kids:=by rw [Wg h5];exact List.getElem_mem h5
 obtain ⟨hdk,hdp⟩:=hdc _ hmd;have hcd:=Ju h5;have ea:dclA F (namA F rs0 F.kids.length) (i+1)=((dclA F (namA F rs0 F.kids.length) i).1++[(dclR F (Zb F i) (dclA F (namA F rs0 F.kids.length) i).2).1],(dclR F (Zb F i) (dclA F (namA F rs0 F.kids.length) i).2).2):=rfl;refine AN fun b10 _ ga _ g E=>?_;have hO:=Uj hO;have h:=Ui h;have hcell:=Ui hcell;have hkid:=Ui hkid;refine AS fun _ ga Ca g E=>?_;have h:=Ub h;have hcell:=Uh hcell;have hkid:=Ud hkid;have hO:=Ue hO;refine AU ?_;have hOlt:=hO.lt;refine AU ?_;refine CL (Xza (Zb F i) [b1,b2,b8,b10] hkid (by omega) (E.ltm (by simp [selB])) g.size) ?_;rintro _ _ ⟨⟨p69,c69,rfl,q69,k69⟩,ga⟩;refine RC fun g E=>?_;have h:=Uk h;have hcell:=Uk hcell;have hkid:=Uk hkid;have hO:=Uk hO;refine AN fun b11 _ ga _ g E=>?_;have hO:=Uj hO;have k69:=Uj k69;have h:=Ui h;have hcell:=Ui hcell;have hkid:=Ui hkid;refine AS fun _ ga Ca g E=>?_;have h:=Ub h;have hcell:=Uh hcell;have hkid:=Ud hkid;have k69:=Ua k69;have hO:=Ue hO;refine IF (fun h6=>?_) fun h6=>?_;replace h6:(Zb F i).kind=2:=of_decide_eq_true h6;have ed:dclR F (Zb F i) (dclA F (namA F rs0 F.kids.length) i).2=(plainT (Zb F i),strA F (Zb F i) (dclA F (namA F rs0 F.kids.length) i).2 (Zb F i).kids.length):=by unfold dclR;rw [Ywh h6];rfl
 refine AU ?_;refine CL (Jhe (fun f hf=>by have q:=Xrb (.inl h6) hdp f hf;have:=(pf3 q.1 q.2).1;omega) h hkid (by omega)) ?_;rintro _ _ ⟨rfl,h,ga⟩;refine RC fun g E=>?_;have k69:=Ul k69;have hO:=hO.gt ga rfl;refine AU ?_;first|have kzz:=k89|have kzz:=k69
 first|have qzz:=q89|have qzz:=q69
 have hO:=hO.sub (Y:=[b1,b2,b8]) (by intro j hj;simp at hj ⊢;omega);refine CN fun _ _ ga l93 g E=>?_;have hO:=Uj hO;have kzz:=Uj kzz;have h:=Ui h;have hOo:=hO;refine Xx O Zd Zu O (Zc O) hO (Zc O) O E.g0.row (Qg kzz qzz (by intro j hj;simp at hj ⊢;omega) (fun j hj=>.inr (by have:=hOlt j hj;omega))) (by simp;omega) (by have:=g.size;omega) ⟨by have:=g.size;omega,by have q1:=E.g5.lt;have q2:=E.g4.lt;have q8:=E.g3.lt;have q93:=E.g0.lt;simp;omega⟩ ?_;intro a94 c94 w94 hO hg94;replace E:=E.sel [true,false,false,true,true,true];replace E:=E.keepX hg94 hOo.ne (by simp [selB]);have g:=Ww g hg94 (fun k hk=>hOo.ge k hk);have h:=h.keepO hg94 hOo (by omega);refine AS fun _ ga Ca g E=>?_;have h:=Ub h;have hO:=Ue hO;refine AU ?_;refine SK [9,1,2,3,4,5,8,54,55] ?_;refine Ze (fun a ha=>?_);have hO:=hO.sub (Y:=[b1,b2,b8]) (by intro j hj;simp at hj ⊢;omega);exact ⟨i+1,ha,⟨⟨h5,by rw [ea,ed];exact h,_,E.g1,by rw [ea,ed];exact hO⟩,g⟩,(Zs (blkE E.g3) (Zs (blkE E.g2) (Yh _))),by omega⟩;replace h6:(Zb F i).kind≠2:=of_decide_eq_false h6;refine IF (fun h7=>?_) fun h7=>?_;replace h7:(Zb F i).kind=6:=of_decide_eq_true h7;have ed:dclR F (Zb F i) (dclA F (namA F rs0 F.kids.length) i).2=(plainT (Zb F i),pointerS F (Zb (Zb F i) 0) (dclA F (namA F rs0 F.kids.length) i).2):=by unfold dclR;rw [Yvh h6,Ywh h7];rfl
 have hl6:=(pf6 h7 hdp).1;obtain ⟨eg,pg,cg,hcg,hkg⟩:=Yk hkid (i:=0) (by omega);refine AU ?_;refine CL (Jkb (Zb (Zb F i) 0) _ _ h) ?_;rintro _ _ ⟨rfl,h,ga⟩;refine RC fun g E=>?_;have k69:=Ul k69;have hO:=hO.gt ga rfl;refine AU ?_;first|have kzz:=k89|have kzz:=k69
 first|have qzz:=q89|have qzz:=q69
 have hO:=hO.sub (Y:=[b1,b2,b8]) (by intro j hj;simp at hj ⊢;omega);refine CN fun _ _ ga l93 g E=>?_;have hO:=Uj hO;have kzz:=Uj kzz;have h:=Ui h;have hOo:=hO;refine Xx O Zd Zu O (Zc O) hO (Zc O) O E.g0.row (Qg kzz qzz (by intro j hj;simp at hj ⊢;omega) (fun j hj=>.inr (by have:=hOlt j hj;omega))) (by simp;omega) (by have:=g.size;omega) ⟨by have:=g.size;omega,by have q1:=E.g5.lt;have q2:=E.g4.lt;have q8:=E.g3.lt;have q93:=E.g0.lt;simp;omega⟩ ?_;intro a94 c94 w94 hO hg94;replace E:=E.sel [true,false,false,true,true,true];replace E:=E.keepX hg94 hOo.ne (by simp [selB]);have g:=Ww g hg94 (fun k hk=>hOo.ge k hk);have h:=h.keepO hg94 hOo (by omega);refine AS fun _ ga Ca g E=>?_;have h:=Ub h;have hO:=Ue hO;refine AU ?_;refine SK [9,1,2,3,4,5,8,54,55] ?_;refine Ze (fun a ha=>?_);have hO:=hO.sub (Y:=[b1,b2,b8]) (by intro j hj;simp at hj ⊢;omega);exact ⟨i+1,ha,⟨⟨h5,by rw [ea,ed];exact h,_,E.g1,by rw [ea,ed];exact hO⟩,g⟩,(Zs (blkE E.g3) (Zs (blkE E.g2) (Yh _))),by omega⟩;replace h7:(Zb F i).kind≠6:=of_decide_eq_false h7;refine IF (fun h8=>?_) fun h8=>?_;replace h8:(Zb F i).kind=4:=of_decide_eq_true h8;have ed:dclR F (Zb F i) (dclA F (namA F rs0 F.kids.length) i).2=funR F (Zb F i) (dclA F (namA F rs0 F.kids.length) i).2:=by unfold dclR;rw [Yvh h6,Yvh h7,Ywh h8];rfl
 refine AU ?_;have hOlt:=hO.lt;refine AU ?_;refine CL (Ydg [b1,b2,b8,b10,b11] H h8 hdp h hkid (by omega) (E.ltm (by simp [selB])) g.size) ?_;rintro _ _ ⟨⟨p89,c89,rfl,q89,k89⟩,h,ga⟩;refine RC fun g E=>?_;have hcell:=hcell.gt ga hDp;have k69:=Ul k69;have hO:=hO.gt ga rfl;refine AS fun _ ga Ca g E=>?_;have h:=Ub h;have hcell:=Uh hcell;have k69:=Ua k69;have k89:=Ua k89;have hO:=Ue hO;refine AU ?_;first|have kzz:=k89|have kzz:=k69
 first|have qzz:=q89|have qzz:=q69
 have hO:=hO.sub (Y:=[b1,b2,b8]) (by intro j hj;simp at hj ⊢;omega);refine CN fun _ _ ga l93 g E=>?_;have hO:=Uj hO;have kzz:=Uj kzz;have h:=Ui h;have hOo:=hO;refine Xx O Zd Zu O (Zc O) hO (Zc O) O E.g0.row (Qg kzz qzz (by intro j hj;simp at hj ⊢;omega) (fun j hj=>.inr (by have:=hOlt j hj;omega))) (by simp;omega) (by have:=g.size;omega) ⟨by have:=g.size;omega,by have q1:=E.g5.lt;have q2:=E.g4.lt;have q8:=E.g3.lt;have q93:=E.g0.lt;simp;omega⟩ ?_;intro a94 c94 w94 hO hg94;replace E:=E.sel [true,false,false,true,true,true];replace E:=E.keepX hg94 hOo.ne (by simp [selB]);have g:=Ww g hg94 (fun k hk=>hOo.ge k hk);have h:=h.keepO hg94 hOo (by omega);refine AS fun _ ga Ca g E=>?_;have h:=Ub h;have hO:=Ue hO;refine AU ?_;refine SK [9,1,2,3,4,5,8,54,55] ?_;refine Ze (fun a ha=>?_);have hO:=hO.sub (Y:=[b1,b2,b8]) (by intro j hj;simp at hj ⊢;omega);exact ⟨i+1,ha,⟨⟨h5,by rw [ea,ed];exact h,_,E.g1,by rw [ea,ed];exact hO⟩,g⟩,(Zs (blkE E.g3) (Zs (blkE E.g2) (Yh _))),by omega⟩;replace h8:(Zb F i).kind≠4:=of_decide_eq_false h8;have ed:dclR F (Zb F i) (dclA F (namA F rs0 F.kids.length) i).2=(plainT (Zb F i),(dclA F (namA F rs0 F.kids.length) i).2):=by unfold dclR;rw [Yvh h6,Yvh h7,Yvh h8];rfl
 refine AU ?_;first|have kzz:=k89|have kzz:=k69
 first|have qzz:=q89|have qzz:=q69
 have hO:=hO.sub (Y:=[b1,b2,b8]) (by intro j hj;simp at hj ⊢;omega);refine CN fun _ _ ga _ g E=>?_;have hO:=Uj hO;have kzz:=Uj kzz;have h:=Ui h;have hOo:=hO;refine Xx O Zd Zu O (Zc O) hO (Zc O) O E.g0.row (Qg kzz qzz (by intro j hj;simp at hj ⊢;omega) (fun j hj=>.inr (by have:=hOlt j hj;omega))) (by simp;omega) (by have:=g.size;omega) ⟨by have:=g.size;omega,by have q1:=E.g5.lt;have q2:=E.g4.lt;have q8:=E.g3.lt;have q93:=E.g0.lt;simp;omega⟩ ?_;intro a94 c94 w94 hO hg94;replace E:=E.sel [true,false,false,true,true,true];replace E:=E.keepX hg94 hOo.ne (by simp [selB]);have g:=Ww g hg94 (fun k hk=>hOo.ge k hk);have h:=h.keepO hg94 hOo (by omega);refine AS fun _ ga Ca g E=>?_;have h:=Ub h;have hO:=Ue hO;refine AU ?_;refine SK [9,1,2,3,4,5,8,54,55] ?_;refine Ze (fun a ha=>?_);have hO:=hO.sub (Y:=[b1,b2,b8]) (by intro j hj;simp at hj ⊢;omega);exact ⟨i+1,ha,⟨⟨h5,by rw [ea,ed];exact h,_,E.g1,by rw [ea,ed];exact hO⟩,g⟩,(Zs (blkE E.g3) (Zs (blkE E.g2) (Yh _))),by omega⟩;replace h5:i=F.kids.length:=by simp only [decide_eq_false_iff_not] at h5;omega
 subst h5;refine AU ?_;refine CL (Yoa F _ _ _ 4 [109,97,105,110] hk0 hcn) ?_;rintro _ _ ⟨⟨p98,c98,rfl,hk98⟩,ga⟩;refine RC fun g E=>?_;have h:=Uk h;have hO:=Uk hO;refine AN fun _ _ ga _ g E=>?_;have hO:=Uj hO;have h:=Ui h;have hk98:=Ui hk98;refine AS fun _ ga Ca g E=>?_;have h:=Ub h;have hk98:=Ud hk98;have hO:=Ue hO;refine IF (fun h9=>?_) fun h9=>?_;have hS:refS F=failS 0 5 (dclA F (namA F rs0 F.kids.length) F.kids.length).2:=by unfold refS Zsf;rw [h9];rfl
 refine AU ?_;refine CL (Wh 0 5 h) ?_;rintro _ _ ⟨rfl,h,ga⟩;refine RC fun g E=>?_;have hO:=hO.gt ga rfl;refine AU ?_;rw [← hS] at h;obtain ⟨fv,sv,sn,h⟩:=h;refine IF (fun h10=>?_) fun h10=>?_;have er:refCheck F=(nd0,(refS F).ea,(refS F).ee):=by unfold refCheck;rw [hv,show decide ((refS F).ee=0)=false by simpa using h10];rfl
 refine AU ?_;refine Xu (rowR (some b2)) [3,3,3,3,0,3,3,3,0,1,3,3] [0,0,2,6,14,0,32,96,224,1,543,2047] mix (by kernel_rfl) [0,1,2,3,4,5,6,7,8,9,10,11] O ?_;have g:=gtd g;replace E:=E.dr;have h:=h.grow (G.drew _);refine Zx 0 O O (fun _=>Uz [_,_,_,_,_,_,_,_,_] Zu O Xn (Vu) O) (Zx 1 O O (fun _=>Zl (Zc O)) (Zx 2 O O (fun _=>Jo (Zc O)) (Zx 3 O O (fun _=>Zn Qe (Zc O)) (Wf 4 O O (fun w1 hx=>Zt Yd (Zc O) (fun _=>(h.B.keep hx (by intro q;first|(injection q with q;omega)|cases q)).at_ O)) (Zx 5 O O (fun _=>Zl (Zc O)) (Zx 6 O O (fun _=>Jo (Zc O)) (Zx 7 O O (fun _=>Zn Ug (Zc O)) (Wf 8 O O (fun w1 hx=>Zt Wka (Zc O) (fun _=>(h.B.keep hx (by intro q;first|(injection q with q;omega)|cases q)).at_ O)) (Zv 9 O O ?_)))))))));refine Zw (L':=[10,11]) [3,3,3,3,0,3,3,3,0,2,3,3] O O O ?_;refine AS fun _ hgS11 _ g E=>?_;refine Yi (hgS11) ?_
 refine Zx 10 O O (fun _=>Yt (Zc O)) (Zx 11 O O (fun _=>Yt (Zc O)) (Ula [(1,_,_),(2,_,_),(3,_,_),(4,_,_),(5,_,_),(8,_,_),(9,_,_),(12,_,_),(13,_,_),(54,_,_),(55,_,_),(56,_,_),(57,_,_),(58,_,_),(59,_,_),(60,_,_),(96,_,_),(97,_,_),(98,_,_),(99,_,_),(100,_,_),(101,_,_),(102,_,_),(103,_,_),(124,_,_),(125,_,_),(126,_,_),(127,_,_),(128,_,_),(129,_,_),(130,_,_),(131,_,_),(132,_,_),(133,_,_),(134,_,_),(135,_,_),(136,_,_),(137,_,_)] (Za O (Za O (Za O (Za O (Za O (Za O (Za O (Za O (Za O (Za O (Za O (Za O (Za O (Za O (Za O (Za O (Za O (Za O (Za O (Za O (Za O (Za O (Za O (Za O (Za O (Za O (Za O (Za O (Za O (Za O (Za O (Za O (Za O (Za O (Za O (Za O (Za O (Za O (Zp _))))))))))))))))))))))))))))))))))))))) (Qk (kq (Xd (Uq (rs:=[.cell 2 26,.tmp 3,.tmp 4]) (vs:=[_,_,_]) O O (Jd O Zh O (E.g2.row) (Qh O (Qh O (Wz)))) O ?_))))));rw [er];exact ⟨⟨_,rfl,Jyb nd0 _ _ rfl⟩,Juc (G.refl w) g (by omega)⟩;have er:refCheck F=(refA F,0,0):=by unfold refCheck;rw [hv,show decide ((refS F).ee=0)=true by simpa using h10];rfl
 refine Ya (kq (Zj (Zm (Vf Zh O O E.g1.row (AS fun _ ga Ca g E=>?_)))));have hO:=Ue hO;refine Yo O (Yo O (Ze (kq (Xd (Uq (rs:=[.cell 2 26,.tmp 3,.tmp 4]) (vs:=[_,_,_]) O O (Jd O Zh O (E.g2.row) (Qh O (Qh O (Wz)))) O ?_)))));rw [er];exact ⟨⟨_,rfl,Zr (t:=annT F _ ty0) rfl hO.kd⟩,Juc (G.refl w) g (by omega)⟩;have hq:0≤(findD F 4 [109,97,105,110]).2:=by have:=of_decide_eq_false h9;omega
 have hl4:=H.l4 hq;obtain ⟨eg,pg,cg,hc0,hkg⟩:=Yk hk98 (i:=0) (by omega);obtain ⟨_,ph,ch,hc1,hkh⟩:=Yk hk98 (i:=1) (by omega);have hDf:pb p98<n0:=Jba hk98 (show 0<(findD F 4 [109,97,105,110]).1.kids.length by omega);refine Zj (Zm (Yj Zg O (Yq Zf O (E.g0.at_ O) (Jm Zd O O (by omega) eg (Yj Zg O (Yq Zf O (hc0.one (i:=4) O) (Xla Zd O (Yse O O (Zq O (Zi O O O (fun _=>Zn Zg (Zc O)) (Ye O O O (Zt Zf (Zk O id) (fun _=>E.g0.at_ O)) (Zi O O O (fun _=>Yz Zd (Zk O id) Xg (fun _=>by omega) (fun _=>eg)) (Zi O O O (fun _=>Zn Xm (Zk O id)) (Ye O O O (Zt Yd (Zk O id) (fun _=>hc1.one (i:=0) O)) (Zi O O O (fun _=>Uwc (Zk O id) Xg) (?_))))))))))))))));refine Zo O (fun _=>Wk (Zc O) (Zk O id)) (Ze (kq (Wm O (fun h11=>?_) (fun h11=>?_))));have hS:refS F=failS (findD F 4 [109,97,105,110]).1.pos 7 (dclA F (namA F rs0 F.kids.length) F.kids.length).2:=by unfold refS Zsf;rw [h9];simp only [cond_false];rw [show (decide (0<((Zb (findD F 4 [109,97,105,110]).1 0).kids.length:Int)) || !decide ((Zb (findD F 4 [109,97,105,110]).1 1).kind=9))=true from h11];rfl
 refine AU ?_;refine CL (Wh (findD F 4 [109,97,105,110]).1.pos 7 h) ?_;rintro _ _ ⟨rfl,h,ga⟩;refine RC fun g E=>?_;have hc0:=hc0.gt ga hDf;have hc1:=hc1.gt ga hDf;have hO:=hO.gt ga rfl;refine AU ?_;rw [← hS] at h;obtain ⟨fv,sv,sn,h⟩:=h;refine IF (fun h12=>?_) fun h12=>?_;have er:refCheck F=(nd0,(refS F).ea,(refS F).ee):=by unfold refCheck;rw [hv,show decide ((refS F).ee=0)=false by simpa using h12];rfl
 refine AU ?_;refine Xu (rowR (some b2)) [3,3,3,3,0,3,3,3,0,1,3,3] [0,0,2,6,14,0,32,96,224,1,543,2047] mix (by kernel_rfl) [0,1,2,3,4,5,6,7,8,9,10,11] O ?_;have g:=gtd g;replace E:=E.dr;have h:=h.grow (G.drew _);have hc0:=hc0.grow (G.drew _);have hc1:=hc1.grow (G.drew _);refine Zx 0 O O (fun _=>Uz [_,_,_,_,_,_,_,_,_] Zu O Xn (Vu) O) (Zx 1 O O (fun _=>Zl (Zc O)) (Zx 2 O O (fun _=>Jo (Zc O)) (Zx 3 O O (fun _=>Zn Qe (Zc O)) (Wf 4 O O (fun w1 hx=>Zt Yd (Zc O) (fun _=>(h.B.keep hx (by intro q;first|(injection q with q;omega)|cases q)).at_ O)) (Zx 5 O O (fun _=>Zl (Zc O)) (Zx 6 O O (fun _=>Jo (Zc O)) (Zx 7 O O (fun _=>Zn Ug (Zc O)) (Wf 8 O O (fun w1 hx=>Zt Wka (Zc O) (fun _=>(h.B.keep hx (by intro q;first|(injection q with q;omega)|cases q)).at_ O)) (Zv 9 O O ?_)))))))));refine Zw (L':=[10,11]) [3,3,3,3,0,3,3,3,0,2,3,3] O O O ?_;refine AS fun _ hgS13 _ g E=>?_;have hc0:=Jb hc0 hgS13 (by omega);have hc1:=Jb hc1 hgS13 (by omega);refine Yi (hgS13) ?_;refine Zx 10 O O (fun _=>Yt (Zc O)) (Zx 11 O O (fun _=>Yt (Zc O)) (TK [1,2,3,4,5,8,9,12,13,54,55,56,57,58,59,60,96,97,98,99,100,101,102,105,106,107,108,109,110,111,112,113,114,115,116,117,118,119,120,121,122,124,125,126,127,128,129,130,131,132,133,134,135,136,137] (Qk (kq (Xd (Uq (rs:=[.cell 2 26,.tmp 3,.tmp 4]) (vs:=[_,_,_]) O O (Jd O Zh O (E.g2.row) (Qh O (Qh O (Wz)))) O ?_))))));rw [er];exact ⟨⟨_,rfl,Jyb nd0 _ _ rfl⟩,Juc (G.refl w) g (by omega)⟩;have er:refCheck F=(refA F,0,0):=by unfold refCheck;rw [hv,show decide ((refS F).ee=0)=true by simpa using h12];rfl
 refine AS fun _ ga Ca g E=>?_;have hc0:=Uh hc0;have hc1:=Uh hc1;have hO:=Ue hO;refine RTN ?_;rw [er];exact ⟨⟨_,rfl,Zr (t:=annT F _ ty0) rfl hO.kd⟩,Juc (G.refl w) g (by omega)⟩;have hS:refS F=(dclA F (namA F rs0 F.kids.length) F.kids.length).2:=by unfold refS Zsf;rw [h9];simp only [cond_false];rw [show (decide (0<((Zb (findD F 4 [109,97,105,110]).1 0).kids.length:Int)) || !decide ((Zb (findD F 4 [109,97,105,110]).1 1).kind=9))=false from h11];rfl
 refine AU ?_;rw [← hS] at h;obtain ⟨fv,sv,sn,h⟩:=h;refine IF (fun h13=>?_) fun h13=>?_;have er:refCheck F=(nd0,(refS F).ea,(refS F).ee):=by unfold refCheck;rw [hv,show decide ((refS F).ee=0)=false by simpa using h13];rfl
 refine AU ?_;refine Xu (rowR (some b2)) [3,3,3,3,0,3,3,3,0,1,3,3] [0,0,2,6,14,0,32,96,224,1,543,2047] mix (by kernel_rfl) [0,1,2,3,4,5,6,7,8,9,10,11] O ?_;have g:=gtd g;replace E:=E.dr;have h:=h.grow (G.drew _);have hc0:=hc0.grow (G.drew _);have hc1:=hc1.grow (G.drew _);refine Zx 0 O O (fun _=>Uz [_,_,_,_,_,_,_,_,_] Zu O Xn (Vu) O) (Zx 1 O O (fun _=>Zl (Zc O)) (Zx 2 O O (fun _=>Jo (Zc O)) (Zx 3 O O (fun _=>Zn Qe (Zc O)) (Wf 4 O O (fun w1 hx=>Zt Yd (Zc O) (fun _=>(h.B.keep hx (by intro q;first|(injection q with q;omega)|cases q)).at_ O)) (Zx 5 O O (fun _=>Zl (Zc O)) (Zx 6 O O (fun _=>Jo (Zc O)) (Zx 7 O O (fun _=>Zn Ug (Zc O)) (Wf 8 O O (fun w1 hx=>Zt Wka (Zc O) (fun _=>(h.B.keep hx (by intro q;first|(injection q with q;omega)|cases q)).at_ O)) (Zv 9 O O ?_)))))))));refine Zw (L':=[10,11]) [3,3,3,3,0,3,3,3,0,2,3,3] O O O ?_;refine AS fun _ hgS15 _ g E=>?_;have hc0:=Jb hc0 hgS15 (by omega);have hc1:=Jb hc1 hgS15 (by omega);refine Yi (hgS15) ?_;refine Zx 10 O O (fun _=>Yt (Zc O)) (Zx 11 O O (fun _=>Yt (Zc O)) (TK [1,2,3,4,5,8,9,12,13,54,55,56,57,58,59,60,96,97,98,99,100,101,102,105,106,107,108,109,110,111,112,113,114,115,116,117,118,119,124,125,126,127,128,129,130,131,132,133,134,135,136,137] (Qk (kq (Xd (Uq (rs:=[.cell 2 26,.tmp 3,.tmp 4]) (vs:=[_,_,_]) O O (Jd O Zh O (E.g2.row) (Qh O (Qh O (Wz)))) O ?_))))));rw [er];exact ⟨⟨_,rfl,Jyb nd0 _ _ rfl⟩,Juc (G.refl w) g (by omega)⟩;have er:refCheck F=(refA F,0,0):=by unfold refCheck;rw [hv,show decide ((refS F).ee=0)=true by simpa using h13];rfl
 refine AS fun _ ga Ca g E=>?_;have hc0:=Uh hc0;have hc1:=Uh hc1;have hO:=Ue hO;refine RTN ?_;rw [er];exact ⟨⟨_,rfl,Zr (t:=annT F _ ty0) rfl hO.kd⟩,Juc (G.refl w) g (by omega)⟩
def fnsT(t:Nd):List Nd:=bif decide ((250:Int)<(count t:Nat)) then [] else bif decide ((refCheck t).2.2=0) then allT (refCheck t).1 else []
theorem Vcb(t:Nd)(v:Value)(D:Nat→Prop)(w:World)(hk:Kd w D t.kids v)(hc:count t≤1048576)(hcr:count t≤250→count (refCheck t).1≤1000000):Ret PP Vxc #[ndV t v] w fun r w'=>Kd w' (fun _=>True) (fnsT t) r∧G w w':=by
 have g:=G.refl w;refine WK 19 [0] Xac ?_;refine BM fun _ _ _ _ g E=>?_;refine AU ?_;refine CP (Xuf t v D _ (hk.grow g) (by omega)) (fun w7 g7=>?_);have g:=g.trans g7;replace E:=E.grow g7;refine IF (fun h1=>?_) fun h1=>?_;replace h1:decide ((250:Int)<(count t:Nat))=true:=h1;have e:fnsT t=[]:=by unfold fnsT;rw [h1];rfl
 refine RTN ?_;rw [e];exact ⟨Jya _ _,g⟩;replace h1:decide ((250:Int)<(count t:Nat))=false:=h1;have h1b:=of_decide_eq_false h1;refine AU ?_;refine CL (Vcf t v D _ (hk.grow g) (by omega)) ?_;rintro v11 w11 ⟨⟨u11,rfl,p11,c11,rfl,hk11⟩,g11⟩;refine ⟨fun _=>g11,?_⟩;have g:=g.trans g11;have hk11:Kd w11 (fun k=>k<w11.heap.size) (refCheck t).1.kids (.slice p11 (refCheck t).1.kids.length c11):=Kd.mono hk11 fun k _ h=>h;replace E:=E.grow g11;refine AN fun _ _ N3 _ g E=>?_;have hk11:=hk11.grow (N3.g);refine AS fun _ ga _ g E=>?_;have hk11:=hk11.keep ga (fun k hk _ he=>by injection he with he;have hk:k<w11.heap.size:=hk;have:=N3.at_;omega);refine IF (fun h2=>?_) fun h2=>?_;have e:fnsT t=[]:=by unfold fnsT;rw [h1,show decide ((refCheck t).2.2=0)=false by simpa using h2];rfl
 refine RTN ?_;rw [e];exact ⟨Jya _ _,g⟩;have e:fnsT t=allT (refCheck t).1:=by unfold fnsT;rw [h1,show decide ((refCheck t).2.2=0)=true by simpa using h2];rfl
 refine AU ?_;refine CL (Wjf (refCheck t).1 _ _ _ hk11 (hcr (by omega))) ?_;rintro _ _ ⟨hk18,ga⟩;refine RC fun g E=>?_;refine RTN ?_;rw [e];exact ⟨hk18.mono fun _ _ _=>trivial,g⟩
def UseOk(C:List (List Dc))(x:Nd):Prop:=∃ (n m:Nat) (l:List Dc) (d:Dc),x.up=n∧x.num=m∧n<C.length∧C[C.length-1-n]? = some l∧l[m]? = some d∧d.name=x.text∧d.typ=x.ty
inductive Us:List (List Dc)→Nd→Prop
  | mk {C:List (List Dc)} {x:Nd}:(useB x=true→UseOk C x)→x.kind≠4→(dclD x≠[]→0<x.kids.length)→(x.kind=38→∀ d∈locL x,d.par=false)→(∀ k∈x.kids,Us (bif decide (x.kind=38) then C++[locL x] else C) k)→Us C x
def Ext(C C':List (List Dc)):Prop:=C.length=C'.length∧∀ (i:Nat) (l:List Dc),C[i]? = some l→∃ l':List Dc,C'[i]? = some l'∧l <+: l'
theorem Yff{α:Type}{l l':List α}(h:l <+: l'){m:Nat}{d:α}(hm:l[m]? = some d):l'[m]? = some d:=by
 obtain ⟨r,rfl⟩:=h;have:=(List.getElem?_eq_some_iff.1 hm).1;rw [List.getElem?_append_left this];exact hm
theorem UseOk.mono{C C':List (List Dc)}{x:Nd}(h:UseOk C x)(e:Ext C C'):UseOk C' x:=by
 obtain ⟨n,m,l,d,h1,h2,h3,h4,h5,h6,h7⟩:=h;obtain ⟨l',k1,k2⟩:=e.2 _ _ h4;exact ⟨n,m,l',d,h1,h2,e.1▸h3,e.1▸k1,Yff k2 h5,h6,h7⟩
theorem Ext.app{C C':List (List Dc)}(e:Ext C C')(a:List Dc):Ext (C++[a]) (C'++[a]):=by
 refine ⟨by rw [List.length_append,List.length_append,e.1],fun i l h=>?_⟩;by_cases hi:i<C.length;rw [List.getElem?_append_left hi] at h;rw [List.getElem?_append_left (e.1▸hi)];exact e.2 i l h;rw [List.getElem?_append_right (by omega)] at h;rw [List.getElem?_append_right (by have:=e.1;omega),← e.1];exact ⟨l,h,List.prefix_refl _⟩
theorem Us.mono{C:List (List Dc)}{x:Nd}(h:Us C x):∀ {C':List (List Dc)},Ext C C'→Us C' x:=by
 induction h with
 | @mk C x h1 h2 h0 h3 h4 ih =>
  intro C' e;refine .mk (fun hu=>(h1 hu).mono e) h2 h0 h3 fun k hk=>?_;refine ih k hk ?_;cases decide (x.kind=38);exact e;exact e.app _
theorem Vpc{B:List (List Dc)}{T d:List Dc}:Ext (B++[T]) (B++[T++d]):=by
 refine ⟨by rw [List.length_append,List.length_append];rfl,fun i l h=>?_⟩;by_cases hi:i<B.length;rw [List.getElem?_append_left hi] at h;rw [List.getElem?_append_left hi];exact ⟨l,h,List.prefix_refl _⟩;rw [List.getElem?_append_right (by omega)] at h;rw [List.getElem?_append_right (by omega)]
 cases hj:i-B.length with
 | zero=>rw [hj] at h;injection h with h;subst h;exact ⟨_,rfl,d,rfl⟩
 | succ j=>rw [hj] at h;cases h
structure EvD (B:List (List Dc)) (T:List Dc) (S:CSt):Prop where
  sc:Sc S
  lv:S.level=B.length
  nx:S.next.take (S.level+1)=(B++[T]).map List.length
  vr:∀ v∈S.vars,∃ l d,(B++[T])[v.level]? = some l∧l[v.num]? = some d∧d.name=v.name∧d.typ=v.typ
section
variable {B:List (List Dc)} {T:List Dc} {S S':CSt}
theorem EvD.same(h:EvD B T S)(h1:S'.vars=S.vars)(h2:S'.scope=S.scope)(h3:S'.level=S.level)(h4:S'.next=S.next):EvD B T S' :=
 ⟨fun v hv=>by rw [h2];exact h.sc v (h1▸hv),h3.trans h.lv,by rw [h3,h4];exact h.nx,fun v hv=>h.vr v (h1▸hv)⟩
theorem EvD.fail(h:EvD B T S)(a e:Int):EvD B T (failS a e S):=by
 unfold failS;cases decide (S.ee=0);exact h;exact h.same rfl rfl rfl rfl
theorem EvD.failu(h:EvD B T S)(b:Bool)(a e:Int):EvD B T (failU b a e S):=by
 cases b;exact h.fail a e;exact h
theorem EvD.cond{S1 S2:CSt}{b:Bool}(h:EvD B T S1)(k:EvD B T S2):EvD B T (bif b then S1 else S2):=by cases b <;> assumption
theorem EvD.pointer(F n:Nd)(h:EvD B T S):EvD B T (pointerS F n S):=(h.failu _ _ _).cond h
theorem EvD.local(F n:Nd)(h:EvD B T S):EvD B T (localS F n S):=(h.pointer F n).failu _ _ _
theorem EvD.open(h:EvD B T S):EvD B T (openS S):=⟨Voc h.sc,h.lv,h.nx,h.vr⟩
theorem EvD.shut(h:EvD B T S)(hs:Sc (shutS S)):EvD B T (shutS S):=⟨hs,h.lv,h.nx,fun v hv=>h.vr v (by
 have hv:v∈dropV S.scope S.vars:=hv;unfold dropV at hv;exact List.mem_reverse.1 ((List.dropWhile_sublist _).subset (List.mem_reverse.1 hv)))⟩
theorem EvD.num(h:EvD B T S):declN S=T.length:=by
 unfold declN
 have e:(S.next.take (S.level+1))[S.level]? = some T.length:=by
  rw [h.nx,h.lv];simp
 rw [List.getElem?_take] at e;split at e;rw [List.getD_eq_getElem?_getD,e];rfl;cases e
theorem EvD.decl(h:EvD B T S)(s:List UInt8)(y:Ty)(a:Int)(p:Bool):EvD B (T++[⟨s,y,p⟩]) (declS s y a S):=by
 obtain ⟨q1,q2,q3,q4⟩:(failU (!dupV S s) a 6 S).vars=S.vars∧(failU (!dupV S s) a 6 S).scope=S.scope∧(failU (!dupV S s) a 6 S).level=S.level∧(failU (!dupV S s) a 6 S).next=S.next:=by
  unfold failU failS;cases (!dupV S s);cases decide (S.ee=0) <;> exact ⟨rfl,rfl,rfl,rfl⟩
  exact ⟨rfl,rfl,rfl,rfl⟩
 have hl:(declS s y a S).level=S.level:=q3;refine ⟨(Vnc s y a S).sc h.sc,hl.trans h.lv,?_,fun v hv=>?_⟩;rw [hl];show (S.next.set S.level (declN S+1)).take (S.level+1)=_;rw [List.take_set,h.nx,h.num,h.lv];simp;have hv:v∈S.vars++[⟨s,y,declN S,S.level,S.scope⟩]:=hv;rcases List.mem_append.1 hv with hv|hv;obtain ⟨l,d,h1,h2,h3,h4⟩:=h.vr v hv;obtain ⟨l',k1,k2⟩:=(Vpc (B:=B) (T:=T) (d:=[⟨s,y,p⟩])).2 _ _ h1;exact ⟨l',d,k1,Yff k2 h2,h3,h4⟩;rw [List.mem_singleton.1 hv];refine ⟨T++[⟨s,y,p⟩],⟨s,y,p⟩,?_,?_,rfl,rfl⟩;show (B++[_])[S.level]? = _;rw [h.lv];simp;show (T++_)[declN S]? = _;rw [h.num];simp
theorem EvD.lit(h:EvD B T S):EvD (B++[T]) [] (litS S):=by
 have hl:S.level+1=(B++[T]).length:=by rw [List.length_append,h.lv];rfl
 refine ⟨h.sc,hl,?_,fun v hv=>?_⟩;show (S.next.take (S.level+1)++[0]).take (S.level+1+1)=_;rw [h.nx,List.take_of_length_le (by rw [List.length_append,List.length_map,← hl];exact Nat.le_refl _),List.map_append (l₁:=B++[T])];rfl;obtain ⟨l,d,h1,h2⟩:=h.vr v hv;refine ⟨l,d,?_,h2⟩;rw [List.getElem?_append_left (List.getElem?_eq_some_iff.1 h1).1];exact h1
theorem EvD.back{d:List Dc}{r:Ty}(h:EvD B T S)(k:EvD (B++[T]) d S')(hv:Vs (litS S) S'):EvD B T { S' with level:=S'.level-1,result:=r }:=by
 have hl:S'.level-1=B.length:=by rw [k.lv,List.length_append];rfl
 refine ⟨fun v hx=>?_,hl,?_,fun v hx=>h.vr v (hv.vars▸hx:v∈(litS S).vars)⟩;have:=h.sc v (hv.vars▸hx:v∈(litS S).vars);show v.scope≤S'.scope;rw [hv.scope];exact this;show S'.next.take (S'.level-1+1)=_;have e:=congrArg (List.take (S'.level-1+1)) k.nx;rw [List.take_take] at e;rw [Nat.min_eq_left (by omega)] at e;rw [e,hl,List.map_append,List.take_append_of_le_length (by simp)];rw [List.take_of_length_le (by simp)]
end
def Dcl(B:List (List Dc))(T:List Dc)(c:Nd×CSt):Prop:=∃ d,(∀ x∈d,x.par=false)∧EvD B (T++d) c.2∧Us (B++[T++d]) c.1∧ownD c.1=d
def Rs(B:List (List Dc))(T:List Dc)(c:Nd×CSt):Prop:=EvD B T c.2∧Us (B++[T]) c.1∧ownD c.1=[]
def Rl(B:List (List Dc))(T:List Dc)(ks:List Nd)(S:CSt):Prop:=∃ d,(∀ x∈d,x.par=false)∧EvD B (T++d) S∧(∀ k∈ks,Us (B++[T++d]) k)∧ks.flatMap ownD=d
def Re(B:List (List Dc))(T:List Dc)(ks:List Nd)(S:CSt):Prop:=EvD B T S∧(∀ k∈ks,Us (B++[T]) k)∧ks.flatMap ownD=[]
def notD(k:Int):Bool:=!anyK [3,4,6,11,38] k
section
variable {B:List (List Dc)} {T:List Dc} {S S':CSt} {ks:List Nd} {c:Nd×CSt}
theorem Rs.rd(h:Rs B T c):Dcl B T c:=⟨[],(fun _ h=>by cases h),by rw [List.append_nil];exact h.1,by rw [List.append_nil];exact h.2.1,h.2.2⟩
theorem Re.rl(h:Re B T ks S):Rl B T ks S:=⟨[],(fun _ h=>by cases h),by rw [List.append_nil];exact h.1,by rw [List.append_nil];exact h.2.1,h.2.2⟩
theorem Usc(h:EvD B T S):Re B T [] S:=⟨h,(fun _ h=>by cases h),rfl⟩
theorem Yeg(h:EvD B T S):Rl B T [] S:=(Usc h).rl
theorem Re.snoc(h:Re B T ks S)(k:EvD B T S→Rs B T c):Re B T (ks++[c.1]) c.2:=by
 obtain ⟨h1,h2,h3⟩:=h;obtain ⟨k1,k2,k3⟩:=k h1;refine ⟨k1,fun x hx=>?_,by rw [List.flatMap_append,h3];simp [k3]⟩;rcases List.mem_append.1 hx with hx|hx;exact h2 x hx;rw [List.mem_singleton.1 hx];exact k2
theorem Rl.snoc(h:Rl B T ks S)(k:∀ T',EvD B T' S→Dcl B T' c):Rl B T (ks++[c.1]) c.2:=by
 obtain ⟨d,h0,h1,h2,h3⟩:=h;obtain ⟨d',k0,k1,k2,k3⟩:=k _ h1;rw [List.append_assoc] at k1 k2;refine ⟨d++d',fun x hx=>(List.mem_append.1 hx).elim (h0 x) (k0 x),k1,fun x hx=>?_,by rw [List.flatMap_append,h3];simp [k3]⟩;rcases List.mem_append.1 hx with hx|hx;have:=(h2 x hx).mono (Vpc (d:=d'));rwa [List.append_assoc] at this;rw [List.mem_singleton.1 hx];exact k2
theorem Re.up(h:Re B T ks S)(k:EvD B T S→EvD B T S'):Re B T ks S':=⟨k h.1,h.2⟩
theorem Rl.up(h:Rl B T ks S)(k:∀ T',EvD B T' S→EvD B T' S'):Rl B T ks S':=by
 obtain ⟨d,h0,h1,h2⟩:=h;exact ⟨d,h0,k _ h1,h2⟩
theorem Dcl.up(h:Dcl B T c)(k:∀ T',EvD B T' c.2→EvD B T' S'):Dcl B T (c.1,S'):=by
 obtain ⟨d,h0,h1,h2⟩:=h;exact ⟨d,h0,k _ h1,h2⟩
theorem Rs.up(h:Rs B T c)(k:EvD B T c.2→EvD B T S'):Rs B T (c.1,S'):=⟨k h.1,h.2⟩
theorem Rl.one(h:Dcl B T c):Rl B T [c.1] c.2:=by
 obtain ⟨d,h0,h1,h2,h3⟩:=h;exact ⟨d,h0,h1,fun k hk=>by rw [List.mem_singleton.1 hk];exact h2,by simp [h3]⟩
theorem Re.one(h:Rs B T c):Re B T [c.1] c.2:=⟨h.1,fun k hk=>by rw [List.mem_singleton.1 hk];exact h.2.1,by simp [h.2.2]⟩
theorem Jca{k:Int}(h:notD k=true):(k≠3∧k≠6∧k≠11)∧k≠4∧k≠38:=by
 refine ⟨⟨?_,?_,?_⟩,?_,?_⟩ <;> (intro e;subst e;revert h;decide)
theorem Wfd{x:Nd}(h:notD x.kind=true):dclD x=[]:=by
 obtain ⟨⟨h1,h2,h3⟩,_⟩:=Jca h;unfold dclD;rw [Yvh h1,Yvh h2,Yvh h3];rfl
theorem Vdb{x:Nd}(h:notD x.kind=true):ownD x=x.kids.flatMap ownD:=by
 rw [Vcc,Wfd h,Yvh (Jca h).2.2];rfl
theorem Qic{C:List (List Dc)}{x:Nd}(h:notD x.kind=true)(hr:x.ref≠1)(hk:∀ k∈x.kids,Us C k):Us C x:=by
 refine .mk (fun hu=>?_) (Jca h).2.1 (fun e=>absurd (Wfd h) e) (fun e=>absurd e (Jca h).2.2) fun k hm=>?_;unfold useB at hu;simp only [Bool.and_eq_true,decide_eq_true_eq] at hu;exact absurd hu.2 hr;rw [Yvh (Jca h).2.2];exact hk k hm
theorem Rl.ann{n:Nd}{y:Ty}(h:Rl B T ks S)(hn:notD n.kind=true):Dcl B T (annT n ks y,S):=by
 obtain ⟨d,h0,h1,h2,h3⟩:=h;exact ⟨d,h0,h1,Qic (x:=annT n ks y) hn (by show (0:Int)≠1;decide) h2,(Vdb (x:=annT n ks y) hn).trans h3⟩
theorem Re.ann{n:Nd}{y:Ty}(h:Re B T ks S)(hn:notD n.kind=true):Rs B T (annT n ks y,S) :=
 ⟨h.1,Qic (x:=annT n ks y) hn (by show (0:Int)≠1;decide) h.2.1,(Vdb (x:=annT n ks y) hn).trans h.2.2⟩
theorem Wgd{n:Nd}(h:EvD B T S)(hn:notD n.kind=true):Rs B T (clnT n,S) :=
 ⟨h,Qic (x:=clnT n) hn (by show (0:Int)≠1;decide) (fun k hk=>by cases hk),Vdb (x:=clnT n) hn⟩
end
/-! kinds -/
theorem Uig{t:Nd}(h:stmtB t=true):t.kind=6∨t.kind=11∨notD t.kind=true:=by
 unfold stmtB at h;have h:=(Bool.and_eq_true_iff.1 h).1;unfold stK at h;rw [Xkb] at h;simp only [List.mem_cons,List.not_mem_nil,or_false] at h;rcases h with h|h|h|h|h|h|h|h|h|h|h|h|h|h <;> first|exact .inl h|exact .inr (.inl h)|(exact .inr (.inr (by rw [h];decide)))
theorem Jnb{t:Nd}(h:isTypeB t=true):notD t.kind=true∧t.kids=[]:=by
 refine ⟨?_,List.length_eq_zero_iff.1 (Vpg h)⟩;unfold isTypeB at h;cases h1:decide (t.kind=8);rw [h1] at h;cases h2:decide (t.kind=7);rw [h2] at h;cases h;rw [of_decide_eq_true h2];decide;rw [of_decide_eq_true h1];decide
theorem Zkh{B:List (List Dc)}{T:List Dc}{S:CSt}{t:Nd}(h:EvD B T S)(ht:isTypeB t=true):Rs B T (plainT t,S):=by
 obtain ⟨h1,h2⟩:=Jnb ht;rw [Vca,h2];exact ⟨h,Qic (x:=.mk t.kind t.text (numS t) t.pos [] ty0 0 0) h1 (by show (0:Int)≠1;decide) (fun k hk=>by cases hk),Vdb (x:=.mk t.kind t.text (numS t) t.pos [] ty0 0 0) h1⟩
theorem Voe(t:Nd):ofF (plainT t)=ofF t:=by
 have e:leafB (plainT t)=leafB t:=by unfold leafB;rw [Whf]
 unfold ofF;rw [e,Vca];rfl
structure Cp (t:Nd) (c:Ck):Prop where
  ex:exprB t=true→∀ B T S,EvD B T S→Rs B T (c.ex S)
  mem:t.kind=28→exprB t=true→∀ B T S,EvD B T S→Rs B T ((c.mem S).1.1,(c.mem S).2)
  rcv:t.kind≠28→∀ B T S,EvD B T S→(c.rcv S).2=true→Rs B T ((c.rcv S).1,S)
  cal:exprB t=true→∀ B T S,EvD B T S→Rs B T ((c.cal S).1.1,(c.cal S).2)
  st:stmtB t=true→∀ B T S,EvD B T S→Dcl B T (c.st S)
  blk:blockB t=true→∀ B T S,EvD B T S→Dcl B T (c.blk S)
  ifs:ifB t=true→∀ B T S,EvD B T S→Dcl B T (c.ifs S)
  sts:blockB t=true→∀ B T S,EvD B T S→Dcl B T (c.sts S)
  cas:Qpa t=true→∀ f B T S,EvD B T S→Dcl B T (c.cas f S)
section
variable {F t:Nd} {x:Nat→Ck} {B:List (List Dc)} {T:List Dc} {S:CSt}
theorem Yfg{l:List Vr}{s:List UInt8}{v:Vr}(h:Jeb l s=some v):v∈l∧v.name=s:=by
 unfold Jeb at h;have h2:=List.find?_some h;exact ⟨List.mem_reverse.1 (List.mem_of_find?_eq_some h),of_decide_eq_true h2⟩
theorem Yce(ht:t.kind=27)(h:EvD B T S)(S':CSt)(h':EvD B T S'):Rs B T ((lookR F S t).1,S'):=by
 have hn:notD t.kind=true:=by rw [ht];decide
 unfold lookR;split;rename_i v hv;obtain ⟨hm,hx⟩:=Yfg hv;obtain ⟨l,d,h1,h2,h3,h4⟩:=h.vr v hm;have hlt:=(List.getElem?_eq_some_iff.1 h1).1;rw [List.length_append,List.length_singleton] at hlt;have hlv:=h.lv;refine ⟨h',.mk (fun _=>⟨S.level-v.level,v.num,l,d,by show (S.level:Int)-v.level=_;omega,rfl,by rw [List.length_append,List.length_singleton];omega,?_,h2,h3.trans hx,h4⟩) (Jca hn).2.1 (fun e=>absurd (Wfd (x:=.mk t.kind _ _ _ [] _ 1 _) hn) e) (fun e=>absurd e (Jca hn).2.2) (fun k hk=>by cases hk),Vdb hn⟩;rw [List.length_append,List.length_singleton,show B.length+1-1-(S.level-v.level)=v.level by omega];exact h1;cases decide (0≤(findD F 6 t.text).2);cases decide (0≤(findD F 4 t.text).2);exact Wgd h' hn;exact ⟨h',Qic (x:=.mk _ _ _ _ [] _ 3 0) hn (by show (3:Int)≠1;decide) (fun k hk=>by cases hk),Vdb (x:=.mk t.kind _ _ _ [] _ 3 0) hn⟩;exact ⟨h',Qic (x:=.mk _ _ _ _ [] _ 2 0) hn (by show (2:Int)≠1;decide) (fun k hk=>by cases hk),Vdb (x:=.mk t.kind _ _ _ [] _ 2 0) hn⟩
theorem Ygg(X:∀ i,Cp (Zb t i) (x i))(ht:t.kind=28)(hx:exprB t=true)(h:EvD B T S):Rs B T ((memR F t x S).1.1,(memR F t x S).2):=by
 have hn:notD t.kind=true:=by rw [ht];decide
 have h0:=(X 0).ex (sh28 ht hx).2.2 B T S h;unfold memR;dsimp only;cases decide (((x 0).ex S).1.ty.kind=4);exact ((Re.one h0).up fun e=>e.fail _ _).ann hn;simp only [cond_true];split;exact (Re.one h0).ann hn;exact ((Re.one h0).up fun e=>e.fail _ _).ann hn
theorem Zlh(ht:t.kind≠28)(h:EvD B T S)(hr:(rcvR F t x S).2=true):Rs B T ((rcvR F t x S).1,S):=by
 unfold rcvR at hr ⊢;cases h1:decide (t.kind=27);rw [h1,Yvh ht] at hr;cases hr;exact Yce (of_decide_eq_true h1) h S h
theorem Yhg(X:∀ i,Cp (Zb t i) (x i))(hk:t.kids.all exprB=true)(ps:List Ty){ks:List Nd}(h:Re B T ks S):∀ i,i+1≤t.kids.length→Re B T (ks++(argA t x ps S i).1) (argA t x ps S i).2
 | 0,_=>by show Re B T (ks++[]) S;rw [List.append_nil];exact h
 | i+1,hi=>by
  have ih:=Yhg X hk ps h i (by omega);show Re B T (ks++((argA t x ps S i).1++[_])) (failU _ _ _ _);rw [← List.append_assoc];exact (ih.snoc fun e=>(X (i+1)).ex (Ur hk hi) B T _ e).up fun e=>e.failu _ _ _
theorem Ujg(X:∀ i,Cp (Zb t i) (x i))(ht:t.kind=30)(hx:exprB t=true)(h:EvD B T S):Rs B T (callR t x S):=by
 have hn:notD t.kind=true:=by rw [ht];decide
 obtain ⟨h1,h2⟩:=sh30 ht hx;have h0:=(X 0).cal (Ur h2 h1) B T S h;exact (Yhg X h2 _ ((Re.one h0).up fun e=>e.failu _ _ _) (t.kids.length-1) (by omega)).ann hn
theorem Zmh(V:∀ i,CkV (x i))(X:∀ i,Cp (Zb t i) (x i))(ht:t.kind=38)(hx:exprB t=true)(h:EvD B T S):Rs B T (litR t x S):=by
 obtain ⟨d,k0,k1,k2,k3⟩:=(X 0).blk (sh38 ht hx).2 _ _ _ h.lit;rw [List.nil_append] at k1 k2;have hb:Vs (litS S) ((x 0).blk (litS S)).2:=(V 0).blk _ h.lit.sc
 have hl:locL (annT t [((x 0).blk (litS S)).1] tFunc)=d:=by
  show [((x 0).blk (litS S)).1].flatMap ownD=d;simp [k3]
 have ho:ownD (annT t [((x 0).blk (litS S)).1] tFunc)=[]:=by
  rw [Vcc];show dclD (annT t _ _)++(bif decide (t.kind=38) then [] else _)=[];rw [Ywh ht];unfold dclD;show (bif decide (t.kind=3) then _ else bif decide (t.kind=6) then _ else bif decide (t.kind=11) then _ else [])++_=_;rw [ht];rfl
 refine (show Rs B T (annT t [((x 0).blk (litS S)).1] tFunc,_) from ⟨h.back k1 hb,.mk (fun hu=>?_) (by show t.kind≠4;rw [ht];decide) (fun _=>Nat.zero_lt_one) (fun _=>by rw [hl];exact k0) fun k hk=>?_,ho⟩);have hu:(decide (t.kind=27)&&decide ((0:Int)=1))=true:=hu;rw [ht] at hu;cases hu;show Us (bif decide (t.kind=38) then _ else _) k;rw [Ywh ht,hl];have hk:k∈[((x 0).blk (litS S)).1]:=hk;rw [List.mem_singleton.1 hk];exact k2
theorem cp_op(X:∀ i,Cp (Zb t i) (x i))(hx:exprB t=true)(hk:t.kind∈([29,31,32,33,35,36,37]:List Int))(h:EvD B T S):Rs B T (opR t x S):=by
 have hn:notD t.kind=true:=by
  simp only [List.mem_cons,List.not_mem_nil,or_false] at hk;rcases hk with e|e|e|e|e|e|e <;> (rw [e];decide)
 have h0:exprB (Zb t 0)=true:=by
  simp only [List.mem_cons,List.not_mem_nil,or_false] at hk;rcases hk with e|e|e|e|e|e|e;exact (sh29 e hx).2.1;exact (sh31 e hx).2.2;exact (sh32 e hx).2.2.1;exact (sh33 e hx).2;exact (sh35 e hx).2;exact (sh36 e hx).2;exact (sh37 e hx).2
 have a:=Re.one ((X 0).ex h0 B T S h);unfold opR;dsimp only [wantS];cases h29:decide (t.kind=29);case true=>exact (((a.up fun e=>e.failu _ _ _).snoc fun e=>(X 1).ex (sh29 (of_decide_eq_true h29) hx).2.2 B T _ e).up fun e=>e.failu _ _ _).ann hn
 cases h31:decide (t.kind=31);case true=>exact (a.up fun e=>e.failu _ _ _).ann hn
 cases h32:decide (t.kind=32);case true=>exact ((a.snoc fun e=>(X 1).ex (sh32 (of_decide_eq_true h32) hx).2.2.2 B T _ e).up fun e=>e.failu _ _ _).ann hn
 simp only [cond_false];cases decide (t.kind=33);case true=>exact (a.up fun e=>e.failu _ _ _).ann hn
 cases decide (t.kind=37);case true=>exact (a.up fun e=>e.failu _ _ _).ann hn
 cases decide (t.kind=35);case true=>exact (a.up fun e=>e.failu _ _ _).ann hn
 cases decide (t.kind=36);case true=>exact (a.up fun e=>e.failu _ _ _).ann hn
 exact a.ann hn
theorem Qyg(V:∀ i,CkV (x i))(X:∀ i,Cp (Zb t i) (x i))(hx:exprB t=true)(h:EvD B T S):Rs B T (exR F t x S):=by
 unfold exR;cases h24:decide (t.kind=24);case true=>exact (Usc h).ann (by rw [of_decide_eq_true h24];decide)
 cases h25:decide (t.kind=25);case true=>exact (Usc h).ann (by rw [of_decide_eq_true h25];decide)
 cases h26:decide (t.kind=26);case true=>exact (Usc h).ann (by rw [of_decide_eq_true h26];decide)
 cases h38:decide (t.kind=38);case true=>exact Zmh V X (of_decide_eq_true h38) hx h
 cases h30:decide (t.kind=30);case true=>exact Ujg X (of_decide_eq_true h30) hx h
 cases h27:decide (t.kind=27);case true=>exact Yce (of_decide_eq_true h27) h _ ((h.failu _ _ _).cond (h.fail _ _))
 cases h28:decide (t.kind=28);case true=>exact (Ygg X (of_decide_eq_true h28) hx h).up fun e=>e.failu _ _ _
 cases h34:decide (t.kind=34);case true=>exact (Usc (h.failu _ _ _)).ann (by rw [of_decide_eq_true h34];decide)
 refine cp_op X hx ?_ h;have hx:=(Bool.and_eq_true_iff.1 hx).1;unfold expK at hx;rw [Xkb] at hx;simp only [decide_eq_false_iff_not] at h24 h25 h26 h38 h30 h27 h28 h34;simp only [List.mem_cons,List.not_mem_nil,or_false] at hx ⊢;omega
theorem Znh(V:∀ i,CkV (x i))(X:∀ i,Cp (Zb t i) (x i))(hx:exprB t=true)(h:EvD B T S):Rs B T ((calR F t x S).1.1,(calR F t x S).2):=by
 unfold calR;dsimp only;cases h1:(decide (t.kind=28)&&((x 0).rcv S).2);simp only [cond_false];cases h2:(decide (t.kind=27)&&((lookR F S t).2&&decide ((lookR F S t).1.ref=3)));exact (Qyg V X hx h).up fun e=>e.failu _ _ _;exact Yce (of_decide_eq_true (Bool.and_eq_true_iff.1 h2).1) h S h;obtain ⟨h1,h2⟩:=Bool.and_eq_true_iff.1 h1;have ht:=of_decide_eq_true h1
 have h0:Rs B T (rcvX t x S):=by
  unfold rcvX;cases h3:decide ((Zb t 0).kind=28);exact (X 0).rcv (of_decide_eq_false h3) B T S h h2;exact (X 0).mem (of_decide_eq_true h3) (sh28 ht hx).2.2 B T S h
 exact ((Re.one h0).up fun e=>e.failu _ _ _).ann (by rw [ht];decide)
theorem Yig(X:∀ i,Cp (Zb t i) (x i))(hb:blockB t=true)(h:EvD B T S):Dcl B T (stsR t x S):=by
 have key:∀ i,i≤t.kids.length→Rl B T (stA x S i).1 (stA x S i).2:=fun i=>by
  induction i with
  | zero=>exact fun _=>Yeg h
  | succ i ih=>exact fun hi=>(ih (by omega)).snoc fun T' e=>(X i).st (Ur (sh10 hb) hi) B T' _ e
 exact (key _ (Nat.le_refl _)).ann (by rw [Zeb hb];decide)
theorem Yjg(V:∀ i,CkV (x i))(X:∀ i,Cp (Zb t i) (x i))(hb:blockB t=true)(h:EvD B T S):Dcl B T (blkR t x S) :=
 (Yig X hb h.open).up fun T' e=>e.shut ((Jke V h.sc).sc h.sc)
theorem Ygf(X:∀ i,Cp (Zb t i) (x i))(hx:noneB (Zb t 0)=true∨exprB (Zb t 0)=true)(h:EvD B T S):Rs B T (condR (Zb t 0) (x 0) S):=by
 unfold condR;cases h1:decide ((Zb t 0).kind=9);refine ((X 0).ex (hx.resolve_left fun q=>of_decide_eq_false h1 (Xya q).1) B T S h).up fun e=>e.failu _ _ _;exact Wgd h (by rw [of_decide_eq_true h1];decide)
theorem Qzg(X:∀ i,Cp (Zb t i) (x i))(hb:ifB t=true)(h:EvD B T S):Dcl B T (ifR t x S):=by
 obtain ⟨_,h0,h1,h2⟩:=sh18 hb;have hk:t.kind=18:=of_decide_eq_true (Bool.and_eq_true_iff.1 hb).1;have a:=(Re.one (Ygf X (.inr h0) h)).rl.snoc fun T' e=>(X 1).blk h1 B T' _ e;unfold ifR;dsimp only;refine Rl.ann (ks:=[_,_]++[_]) (a.snoc fun T' e=>?_) (by rw [hk];decide);cases h3:decide ((Zb t 2).kind=10);cases h4:decide ((Zb t 2).kind=18);refine (Wgd e ?_).rd;rcases h2 with q|q|q;rw [Zeb q] at h3;cases h3;rw [show (Zb t 2).kind=18 from of_decide_eq_true (Bool.and_eq_true_iff.1 q).1] at h4;cases h4;rw [(Xya q).1];decide;refine (X 2).ifs ?_ B T' _ e;have h4:=of_decide_eq_true h4;rcases h2 with q|q|q;rw [Zeb q] at h4;cases h4;exact q;rw [(Xya q).1] at h4;cases h4;refine (X 2).blk ?_ B T' _ e;have h3:=of_decide_eq_true h3;rcases h2 with q|q|q;exact q;rw [show (Zb t 2).kind=18 from of_decide_eq_true (Bool.and_eq_true_iff.1 q).1] at h3;cases h3;rw [(Xya q).1] at h3;cases h3
theorem Zoh(V:∀ i,CkV (x i))(X:∀ i,Cp (Zb t i) (x i))(hb:Qpa t=true)(f:Bool)(h:EvD B T S):Dcl B T (casR t x f S):=by
 obtain ⟨hk,_,hc,hb1⟩:=sh23 hb
 have a:Dcl B T (bif decide ((Zb t 0).kind=9) then (clnT (Zb t 0),failU f t.pos 6 (openS S)) else (x 0).st (openS S)):=by
  cases h1:decide ((Zb t 0).kind=9);exact (X 0).st ((Qcd hc).resolve_left (of_decide_eq_false h1)) B T _ h.open;exact (Wgd (h.open.failu _ _ _) (by rw [of_decide_eq_true h1];decide)).rd
 have hs:Sc (casR t x f S).2:=(Zsg V f h.sc).sc h.sc;exact Rl.ann (((Rl.one a).snoc fun T' e=>(X 1).sts hb1 B T' _ e).up fun T' e=>e.shut hs) (by rw [hk];decide)
theorem Zph(X:∀ i,Cp (Zb t i) (x i))(ht:t.kind=22)(hb:stmtB t=true)(h:EvD B T S):Dcl B T (selR t x S):=by
 have key:∀ i,i≤t.kids.length→Rl B T (selA t x S i).1 (selA t x S i).2.2:=fun i=>by
  induction i with
  | zero=>exact fun _=>Yeg h
  | succ i ih=>exact fun hi=>(ih (by omega)).snoc fun T' e=>(X i).cas (Ur (sh22 ht hb) hi) _ B T' _ e
 exact (key _ (Nat.le_refl _)).ann (by rw [ht];decide)
theorem Ykg{ks:List Nd}{s:List UInt8}{y:Ty}{a:Int}(h:Re B T ks S)(hk:t.kind=6∨t.kind=11)(hs:s=t.text)(hd:dclD (dclT t ks (declN S))=[⟨t.text,y,false⟩])(hne:0<ks.length):Dcl B T (dclT t ks (declN S),declS s y a S):=by
 subst hs;have h38:decide (t.kind=38)=false:=by rcases hk with e|e <;> (rw [e];rfl)
 obtain ⟨h1,h2,h3⟩:=h;refine ⟨[⟨t.text,y,false⟩],fun x hx=>by rw [List.mem_singleton.1 hx],h1.decl _ _ _ _,.mk (fun hu=>?_) (by show t.kind≠4;rcases hk with e|e <;> (rw [e];decide)) (fun _=>hne) (fun e=>absurd e (of_decide_eq_false h38)) (fun k hm=>?_),?_⟩
 have hu:(decide (t.kind=27)&&_)=true:=hu;rcases hk with e|e <;> (rw [e] at hu;cases hu)
 show Us (bif decide (t.kind=38) then _ else _) k;rw [h38];exact (h2 k hm).mono Vpc;rw [Vcc,hd];show _++(bif decide (t.kind=38) then [] else ks.flatMap ownD)=_;rw [h38,h3];rfl
theorem Zqh(X:∀ i,Cp (Zb t i) (x i))(ht:t.kind=6)(hb:varB t=true)(h:EvD B T S):Dcl B T (varR F t x S):=by
 obtain ⟨_,_,h0,h1⟩:=sh6 hb;unfold varR;dsimp only;refine Ykg (ks:=[_]++[_]) ((Re.one (Zkh (h.local F (Zb t 0)) h0)).snoc fun e=>?_) (.inl ht) O ?_ (by simp);cases h2:decide ((Zb t 1).kind=9);exact ((X 1).ex (h1.resolve_left fun q=>of_decide_eq_false h2 (Xya q).1) B T _ e).up fun e=>e.failu _ _ _;exact Wgd e (by rw [of_decide_eq_true h2];decide);unfold dclD;show (bif decide (t.kind=3) then _ else bif decide (t.kind=6) then _ else bif decide (t.kind=11) then _ else _)=_;rw [ht];show [(⟨t.text,(ofF (plainT (Zb t 0))).1,false⟩:Dc)]=_;rw [Voe]
theorem Zrh(X:∀ i,Cp (Zb t i) (x i))(ht:t.kind=11)(hb:stmtB t=true)(h:EvD B T S):Dcl B T (defR t x S):=by
 obtain ⟨_,_,h0⟩:=sh11 ht hb;unfold defR;dsimp only;refine Ykg ((Re.one ((X 0).ex h0 B T S h)).up fun e=>e.failu _ _ _) (.inr ht) O ?_ (by simp);unfold dclD;show (bif decide (t.kind=3) then _ else bif decide (t.kind=6) then _ else bif decide (t.kind=11) then _ else _)=_;rw [ht];rfl
theorem cp_st(V:∀ i,CkV (x i))(X:∀ i,Cp (Zb t i) (x i))(hb:stmtB t=true)(h:EvD B T S):Dcl B T (stR F t x S):=by
 have e2:∀ {k:Int},t.kind=k→notD k=true→notD t.kind=true:=fun q r=>q▸r;unfold stR;dsimp only;cases h10:decide (t.kind=10);case true=>exact Yjg V X (sh10s (of_decide_eq_true h10) hb) h
 cases h18:decide (t.kind=18);case true=>exact Qzg X (sh18s (of_decide_eq_true h18) hb) h
 cases h12:decide (t.kind=12)
 case true =>
  have ht:=of_decide_eq_true h12;obtain ⟨_,h0,h1⟩:=sh12 ht hb;exact (((((Re.one ((X 0).ex h0 B T S h)).up fun e=>e.failu _ _ _).snoc fun e=>(X 1).ex h1 B T _ e).up fun e=>e.failu _ _ _).ann (by rw [ht];decide)).rd
 cases h22:decide (t.kind=22);case true=>exact Zph X (of_decide_eq_true h22) hb h
 cases h6:decide (t.kind=6);case true=>exact Zqh X (of_decide_eq_true h6) (sh6s (of_decide_eq_true h6) hb) h
 cases h11:decide (t.kind=11);case true=>exact Zrh X (of_decide_eq_true h11) hb h
 cases h19:decide (t.kind=19)
 case true =>
  have ht:=of_decide_eq_true h19;obtain ⟨_,h0,h1⟩:=sh19 ht hb;exact ((Re.one (Ygf X h0 h)).rl.snoc fun T' e=>(X 1).blk h1 B T' _ e).ann (by rw [ht];decide)
 cases h20:decide (t.kind=20)
 case true =>
  have ht:=of_decide_eq_true h20;obtain ⟨h1,h2⟩:=sh20 ht hb;simp only [cond_false,cond_true];unfold retR;dsimp only;cases h3:decide ((t.kids.length:Int)=1);exact ((Usc (h.failu _ _ _)).ann (by rw [ht];decide)).rd;have h3:=of_decide_eq_true h3;exact (((Re.one ((X 0).ex (Ur h2 (by omega)) B T _ (h.failu _ _ _))).up fun e=>e.failu _ _ _).ann (by rw [ht];decide)).rd
 simp only [decide_eq_false_iff_not] at h6 h11;have hn:notD t.kind=true:=((Uig hb).resolve_left h6).resolve_left h11
 have h0:exprB (Zb t 0)=true:=by
  have hx:=(Bool.and_eq_true_iff.1 hb).1;unfold stK at hx;rw [Xkb] at hx;simp only [List.mem_cons,List.not_mem_nil,or_false] at hx;simp only [decide_eq_false_iff_not] at h10 h18 h12 h22 h19 h20;rcases hx with e|e|e|e|e|e|e|e|e|e|e|e|e|e;exact absurd e h6;exact absurd e h10;exact absurd e h11;exact absurd e h12;exact (sh13 e hb).2;exact (sh14 e hb).2;exact (sh15 e hb).2;exact (sh16 e hb).2.1;exact (sh17 e hb).2;exact (sh21 e hb).2;exact absurd e h18;exact absurd e h19;exact absurd e h20;exact absurd e h22
 have a:=Re.one ((X 0).ex h0 B T S h);simp only [cond_false,wantS];cases h16:decide (t.kind=16);case true=>exact ((((a.up fun e=>e.failu _ _ _).snoc fun e=>(X 1).ex (sh16 (of_decide_eq_true h16) hb).2.2 B T _ e).up fun e=>e.failu _ _ _).ann hn).rd
 cases decide (t.kind=17);case true=>exact ((a.up fun e=>e.failu _ _ _).ann hn).rd
 cases decide (t.kind=21);case true=>exact ((a.up fun e=>e.failu _ _ _).ann hn).rd
 exact (a.ann hn).rd
theorem cp_f(V:∀ i,CkV (x i))(X:∀ i,Cp (Zb t i) (x i)):Cp t (ckF F t x) :=
 ⟨fun hx B T S h=>Qyg V X hx h,fun ht hx B T S h=>Ygg X ht hx h,fun ht B T S h hr=>Zlh ht h hr,fun hx B T S h=>Znh V X hx h,fun hb B T S h=>cp_st V X hb h,fun hb B T S h=>Yjg V X hb h,
  fun hb B T S h=>Qzg X hb h,fun hb B T S h=>Yig X hb h,fun hb f B T S h=>Zoh V X hb f h⟩
end
theorem cp_0:Cp nd0 ck0:=by
 have he:exprB nd0=false:=by decide
 have hs:stmtB nd0=false:=by decide
 have hb:blockB nd0=false:=by decide
 have hi:ifB nd0=false:=by decide
 have hc:Qpa nd0=false:=by decide
 refine ⟨fun h=>?_,fun _ h=>?_,fun _ _ _ _ _ h=>(by cases h),fun h=>?_,fun h=>?_,fun h=>?_,fun h=>?_,fun h=>?_,fun h=>?_⟩;rw [he] at h;cases h;rw [he] at h;cases h;rw [he] at h;cases h;rw [hs] at h;cases h;rw [hb] at h;cases h;rw [hi] at h;cases h;rw [hb] at h;cases h;rw [hc] at h;cases h
theorem cp_t(F:Nd):∀ t,Cp t (ckT F t):=by
 refine Nd.ind fun t ih=>?_;rw [Yva];refine cp_f (fun i=>ckv_x F t i) fun i=>?_;by_cases h:i<t.kids.length;rw [Vt h,Wg h];exact ih _ (List.getElem_mem h);rw [ckX,Zb];simp only [List.getD_eq_getElem?_getD,List.getElem?_map];rw [List.getElem?_eq_none (by omega)];exact cp_0
structure FnOk (C:List (List Dc)) (t:Nd):Prop where
  us:∀ k∈t.kids,Us (C++[locL t]) k
  par:∃ a b,locL t=a++b∧(∀ d∈a,d.par=true)∧∀ d∈b,d.par=false
theorem Ukg{C:List (List Dc)}{x:Nd}(h:Us C x):∀ y∈listN x,y.kind≠4∧(y.kind=38→∃ C',C'.length+count y≤C.length+count x∧FnOk C' y):=by
 induction h with
 | @mk C x h1 h2 h0 h3 h4 ih =>
  intro y hy;rw [Xra] at hy;rcases List.mem_cons.1 hy with e|hy;subst e;refine ⟨h2,fun e=>⟨C,Nat.le_refl _,fun k hk=>?_,[],_,rfl,fun _ h=>(by cases h),h3 e⟩⟩;have:=h4 k hk;rwa [Ywh e] at this;obtain ⟨k,hk,hy⟩:=List.mem_flatMap.1 hy;obtain ⟨q1,q2⟩:=ih k hk y hy;refine ⟨q1,fun e=>?_⟩;obtain ⟨C',hc,hf⟩:=q2 e;refine ⟨C',?_,hf⟩;have hm:=Ji hk;revert hc;cases decide (x.kind=38);intro hc;have hc:C'.length+count y≤C.length+count k:=hc;omega;intro hc;have hc:C'.length+count y≤(C++[locL x]).length+count k:=hc;rw [List.length_append,List.length_singleton] at hc;omega
theorem Zsh(S:CSt):EvD [] [] (funS0 S):=⟨(fun v hv=>by cases hv),rfl,rfl,(fun v hv=>by cases hv)⟩
theorem Ylg{C:List (List Dc)}{t:Nd}(ht:notD t.kind=true)(hk:t.kids=[]):Us C (plainT t):=by
 rw [Vca,hk];exact Qic (x:=.mk t.kind t.text (numS t) t.pos [] ty0 0 0) ht (by show (0:Int)≠1;decide) (fun k hk=>by cases hk)
theorem Yhf{t:Nd}(ht:notD t.kind=true)(hk:t.kids=[]):ownD (plainT t)=[]:=by
 rw [Vca,hk];exact Vdb (x:=.mk t.kind t.text (numS t) t.pos [] ty0 0 0) ht
theorem Yif{t:Nd}(h:t.kids.length=1):t.kids=[Zb t 0]:=by
 unfold Zb
 match t.kids,h with
 | [a],_=>rfl
theorem Ymg{F p:Nd}(S:CSt)(hp:∀ f∈p.kids,f.kind=3∧permF f=true):∀ i,i≤p.kids.length→∃ d,(∀ x∈d,x.par=true)∧EvD [] d (parA F p (funS0 S) i).2∧(∀ k∈(parA F p (funS0 S) i).1,Us [d] k)∧(parA F p (funS0 S) i).1.flatMap ownD=d
 | 0,_=>⟨[],(fun _ h=>by cases h),Zsh S,(fun _ h=>by cases h),rfl⟩
 | i+1,hi=>by
  obtain ⟨d,h0,h1,h2,h3⟩:=Ymg (F:=F) S hp i (by omega);have hf:=hp (Zb p i) (by rw [Wg hi];exact List.getElem_mem hi);obtain ⟨hl,ht⟩:=pf3 hf.1 hf.2;obtain ⟨t1,t2⟩:=Jnb ht;obtain ⟨f,hfe⟩:∃ f,f=Zb p i:=⟨_,rfl⟩;rw [← hfe] at hf hl ht t1 t2;have hks:f.kids.map plainT=[plainT (Zb f 0)]:=by rw [Yif hl];rfl
  have hd:dclD (.mk f.kind f.text (declN (parA F p (funS0 S) i).2) f.pos (f.kids.map plainT) ty0 1 0)=[⟨f.text,(ofF (Zb f 0)).1,true⟩]:=by
   unfold dclD;show (bif decide (f.kind=3) then [(⟨f.text,(ofF ((f.kids.map plainT).getD 0 nd0)).1,true⟩:Dc)] else _)=_;rw [hf.1,hks];show [(⟨f.text,(ofF (plainT (Zb f 0))).1,true⟩:Dc)]=_;rw [Voe]
  refine ⟨d++[⟨f.text,(ofF (Zb f 0)).1,true⟩],fun x hx=>?_,?_,fun k hk=>?_,?_⟩;rcases List.mem_append.1 hx with hx|hx;exact h0 x hx;rw [List.mem_singleton.1 hx];rw [parA,← hfe];exact (h1.decl _ _ _ _).local _ _;rw [parA,← hfe] at hk;rcases List.mem_append.1 hk with hk|hk;exact (h2 k hk).mono (Vpc (B:=[]));rw [List.mem_singleton.1 hk];refine .mk (fun hu=>?_) (by show f.kind≠4;rw [hf.1];decide) (fun _=>by show 0<(f.kids.map plainT).length;rw [hks];exact Nat.zero_lt_one) (fun e=>absurd (show f.kind=38 from e) (by rw [hf.1];decide)) fun k hk=>?_;have hu:(decide (f.kind=27)&&_)=true:=hu;rw [hf.1] at hu;cases hu;have hk:k∈f.kids.map plainT:=hk;rw [hks] at hk;rw [List.mem_singleton.1 hk];exact Ylg t1 t2;rw [parA,← hfe,List.flatMap_append,h3,List.flatMap_cons,List.flatMap_nil,List.append_nil,Vcc,hd];show d++([_]++(bif decide (f.kind=38) then [] else (f.kids.map plainT).flatMap ownD))=_;rw [hf.1,hks];show d++([_]++([plainT (Zb f 0)].flatMap ownD))=_;rw [List.flatMap_cons,Yhf t1 t2];rfl
theorem Zth{F n:Nd}(S:CSt)(hk:n.kind=4)(hp:permF n=true):FnOk [] (funR F n S).1:=by
 obtain ⟨_,⟨p1,p2⟩,hr,b1,b2⟩:=pf4 hk hp;obtain ⟨d,h0,h1,h2,h3⟩:=Ymg (F:=F) S (Xrb (.inr p1) p2) _ (Nat.le_refl _);have hs1:EvD [] d (funS1 F n S):=h1.same rfl rfl rfl rfl
 have hs2:EvD [] d (funS2 F n S):=by
  unfold funS2;cases decide ((Zb n 1).kind=9);exact (hs1.local F (Zb n 1)).same rfl rfl rfl rfl;exact hs1
 have hb:blockB (Zb n 2)=true:=by unfold blockB;rw [b1,b2];rfl
 obtain ⟨d2,k0,_,k2,k3⟩:=(cp_t F (Zb n 2)).sts hb [] d _ hs2
 have hrt:notD (Zb n 1).kind=true∧(Zb n 1).kids=[]:=hr.elim Jnb fun q=>by
  obtain ⟨q1,_,q3⟩:=Xya q;exact ⟨by rw [q1];decide,List.length_eq_zero_iff.1 q3⟩
 have hpk:notD (Zb n 0).kind=true:=by rw [p1];decide
 have hl:locL (funR F n S).1=d++d2:=by
  show [annT (Zb n 0) _ ty0,plainT (Zb n 1),((ckT F (Zb n 2)).sts (funS2 F n S)).1].flatMap ownD=_;rw [List.flatMap_cons,List.flatMap_cons,List.flatMap_cons,List.flatMap_nil,k3,Yhf hrt.1 hrt.2,Vdb (x:=annT (Zb n 0) _ ty0) hpk];show (parA F (Zb n 0) (funS0 S) (Zb n 0).kids.length).1.flatMap ownD++([]++(d2++[]))=_;rw [h3,List.append_nil,List.nil_append]
 refine ⟨fun k hm=>?_,d,d2,hl,h0,k0⟩;rw [hl];have hm:k∈[annT (Zb n 0) (parA F (Zb n 0) (funS0 S) (Zb n 0).kids.length).1 ty0,plainT (Zb n 1),((ckT F (Zb n 2)).sts (funS2 F n S)).1]:=hm;simp only [List.mem_cons,List.not_mem_nil,or_false] at hm;rcases hm with e|e|e;subst e;exact Qic (x:=annT _ _ ty0) hpk (by show (0:Int)≠1;decide) fun k hk=>(h2 k hk).mono (Vpc (B:=[]));subst e;exact Ylg hrt.1 hrt.2;subst e;exact k2
theorem Vpe(F:Nd)(S:CSt):∀ i,i≤F.kids.length→∀ x∈(dclA F S i).1,∃ d∈F.kids,∃ S',x=(dclR F d S').1
 | 0,_,x,hx=>by cases hx
 | i+1,hi,x,hx=>by
  rw [dclA] at hx;rcases List.mem_append.1 hx with hx|hx;exact Vpe F S i (by omega) x hx;exact ⟨Zb F i,by rw [Wg hi];exact List.getElem_mem hi,_,List.mem_singleton.1 hx⟩
theorem Xrc{t:Nd}(h:t.kids=[]):listN (plainT t)=[plainT t]:=by rw [Xra,Xsa,h];rfl
theorem Ura(t:Nd):(plainT t).kind=t.kind:=by rw [Vca];rfl
theorem Ulg{F:Nd}(hv:validB F=true){y:Nd}(hy:y∈listN (refA F))(hk:y.kind=4∨y.kind=38):∃ C,(y.kind=4→C=[])∧C.length≤count (refA F)∧FnOk C y:=by
 obtain ⟨h1,hp⟩:=Xqc hv;have hd:=Wed h1 hp;have hform:=Uqa hp;rw [Ysa,h1] at hform;have hform:((!(F.kids.any fileVarB)&&everyB F (memK [2,6,4]))&&F.kids.all permF)=true:=hform;simp only [Bool.and_eq_true,Bool.not_eq_true',List.any_eq_false] at hform;have hfv:=hform.1.1;rw [Xra] at hy;rcases List.mem_cons.1 hy with e|hy;exfalso;subst e;have:(refA F).kind=F.kind:=rfl;rw [this,h1] at hk;revert hk;decide;obtain ⟨x,hx,hy⟩:=List.mem_flatMap.1 hy;have hxc:=Ji hx;obtain ⟨d,hm,S',e⟩:=Vpe F _ _ (Nat.le_refl _) x hx;obtain ⟨hdk,hdp⟩:=hd d hm;rcases hdk with h|h|h;exfalso;have e:x=plainT d:=by rw [e];unfold dclR;rw [h];rfl
 rw [e,Xra] at hy;rcases List.mem_cons.1 hy with e|hy;subst e;rw [Ura,h] at hk;revert hk;decide;rw [Xsa] at hy;obtain ⟨f',hf',hy⟩:=List.mem_flatMap.1 hy;obtain ⟨f,hf,rfl⟩:=List.mem_map.1 hf';obtain ⟨f1,f2⟩:=Xrb (.inl h) hdp f hf;obtain ⟨l1,l2⟩:=pf3 f1 f2;obtain ⟨t1,t2⟩:=Jnb l2;rw [Xra] at hy;rcases List.mem_cons.1 hy with e|hy;subst e;rw [Ura,f1] at hk;revert hk;decide;rw [Xsa,Yif l1] at hy;obtain ⟨g',hg',hy⟩:=List.mem_flatMap.1 hy;rw [List.mem_singleton.1 (show g'∈[plainT (Zb f 0)] from hg'),Xrc t2] at hy;rw [List.mem_singleton.1 hy,Ura] at hk;have:=Jca t1;exact hk.elim this.2.1 this.2.2;exfalso;have e:x=plainT d:=by rw [e];unfold dclR;rw [h];rfl
 obtain ⟨l1,l2,l3⟩:=pf6 h hdp;obtain ⟨t1,t2⟩:=Jnb l2
 have h9:(Zb d 1).kind=9:=by
  have:=hfv d hm;unfold fileVarB at this;rw [h] at this;simp [lenK,l1] at this;exact this
 have h90:(Zb d 1).kids=[]:=by
  have:=Uqa l3;rw [Ysa,h9] at this;have this:(lenK (Zb d 1) 0&&(Zb d 1).kids.all permF)=true:=this;have this:=(Bool.and_eq_true_iff.1 this).1;unfold lenK at this;simpa using this
 rw [e,Xra] at hy;rcases List.mem_cons.1 hy with e|hy;subst e;rw [Ura,h] at hk;revert hk;decide;rw [Xsa] at hy;obtain ⟨f',hf',hy⟩:=List.mem_flatMap.1 hy;obtain ⟨f,hf,rfl⟩:=List.mem_map.1 hf';obtain ⟨i,hi,rfl⟩:=List.getElem_of_mem hf;rw [← Wg hi] at hy;have hi2:i=0∨i=1:=by omega
 rcases hi2 with rfl|rfl;rw [Xrc t2] at hy;rw [List.mem_singleton.1 hy,Ura] at hk;have:=Jca t1;exact hk.elim this.2.1 this.2.2;rw [Xrc h90] at hy;rw [List.mem_singleton.1 hy,Ura,h9] at hk;revert hk;decide;have e:x=(funR F d S').1:=by rw [e];unfold dclR;rw [h];rfl
 have hf:=Zth (F:=F) S' h hdp;rw [← e] at hf;rw [Xra] at hy;rcases List.mem_cons.1 hy with ey|hy;subst ey;exact ⟨[],fun _=>rfl,Nat.zero_le _,hf⟩;obtain ⟨k,hkm,hy⟩:=List.mem_flatMap.1 hy;obtain ⟨q1,q2⟩:=Ukg (hf.us k hkm) y hy;obtain ⟨C',hc,hq⟩:=q2 (hk.resolve_left q1);refine ⟨C',fun e=>absurd e q1,?_,hq⟩;have:=Ji hkm;have hc:C'.length+count y≤1+count k:=hc;omega
structure Cn (n:Nat) (c:Ck):Prop where
  ex:∀ S,count (c.ex S).1≤n
  mem:∀ S,count (c.mem S).1.1≤n
  rcv:∀ S,count (c.rcv S).1≤n
  cal:∀ S,count (c.cal S).1.1≤n
  st:∀ S,count (c.st S).1≤n
  blk:∀ S,count (c.blk S).1≤n
  ifs:∀ S,count (c.ifs S).1≤n
  sts:∀ S,count (c.sts S).1≤n
  cas:∀ f S,count (c.cas f S).1≤n
theorem Wb(n:Nd)(ks:List Nd)(y:Ty):count (annT n ks y)=1+(ks.map count).sum:=Uw _
theorem Xsb(k:Int)(x:List UInt8)(n a:Int)(ks:List Nd)(y:Ty)(r u:Int):count (.mk k x n a ks y r u)=1+(ks.map count).sum:=Uw _
theorem Xtb(n:Nd):count (clnT n)=1:=Uw _
theorem Zdc:count nd0=1:=by decide
section
variable {F t:Nd} {x:Nat→Ck}
theorem Yde(S:CSt):count (lookR F S t).1=1:=by
 unfold lookR;split;exact Xsb ..;cases decide (0≤(findD F 6 t.text).2);cases decide (0≤(findD F 4 t.text).2);exact Xtb t;exact Xsb ..;exact Xsb ..
theorem Yee:cN t 0+cN t 1+cN t 2+1≤count t:=by
 have:=Vxa t 3;simp only [sC] at this;omega
theorem Jme(X:∀ i,Cn (4*cN t i+1) (x i))(S:CSt):count (memR F t x S).1.1≤4*count t:=by
 have h:=(X 0).ex S;have h3:=Yee (t:=t);unfold memR;dsimp only;cases decide (((x 0).ex S).1.ty.kind=4);simp only [cond_false,Wb,List.map_cons,List.map_nil,List.sum_cons,List.sum_nil];omega;simp only [cond_true];split <;> (simp only [Wb,List.map_cons,List.map_nil,List.sum_cons,List.sum_nil];omega)
theorem Yng(Xr:∀ i,i<t.kids.length→Cn (4*cN t i) (x i))(ps:List Ty)(S:CSt):∀ i,i+1≤t.kids.length→((argA t x ps S i).1.map count).sum+4*cN t 0≤4*sC t (i+1)
 | 0,_=>by show 0+_≤4*(sC t 0+cN t 0);simp only [sC];omega
 | i+1,hi=>by
  have ih:=Yng Xr ps S i (by omega);have h:=(Xr (i+1) (by omega)).ex (argA t x ps S i).2;show (((argA t x ps S i).1++[_]).map count).sum+_≤4*(sC t (i+1)+cN t (i+1));rw [List.map_append,List.sum_append];simp only [List.map_cons,List.map_nil,List.sum_cons,List.sum_nil];omega
theorem Umg(X:∀ i,Cn (4*cN t i+1) (x i))(Xr:∀ i,i<t.kids.length→Cn (4*cN t i) (x i))(S:CSt):count (callR t x S).1≤4*count t:=by
 have h:=(X 0).cal S;unfold callR;dsimp only;rw [Wb,List.map_cons,List.sum_cons];by_cases hl:1≤t.kids.length;have ha:=Yng Xr ((x 0).cal S).1.2.1 (failU (decide ((t.kids.length:Int)-1=((x 0).cal S).1.2.1.length)) t.pos 7 ((x 0).cal S).2) (t.kids.length-1) (by omega);have hs:=Vxa t (t.kids.length-1+1);omega;have e:t.kids.length-1=0:=by omega
 have h3:=Yee (t:=t);rw [e];show 1+(_+0)≤_;omega
theorem cn_op(X:∀ i,Cn (4*cN t i+1) (x i))(S:CSt):count (opR t x S).1≤4*count t:=by
 have h:=(X 0).ex S;have h3:=Yee (t:=t);unfold opR;dsimp only [wantS];cases decide (t.kind=29)
 case true =>
  have h1:=(X 1).ex (failU (decide (((x 0).ex S).1.ty.kind=5)) (Zb t 0).pos 7 ((x 0).ex S).2);simp only [cond_true,Wb,List.map_cons,List.map_nil,List.sum_cons,List.sum_nil];omega
 cases decide (t.kind=31);case true=>simp only [cond_true,cond_false,Wb,List.map_cons,List.map_nil,List.sum_cons,List.sum_nil];omega
 cases decide (t.kind=32)
 case true =>
  have h1:=(X 1).ex ((x 0).ex S).2;simp only [cond_true,cond_false,Wb,List.map_cons,List.map_nil,List.sum_cons,List.sum_nil];omega
 simp only [cond_false];cases decide (t.kind=33);case true=>simp only [cond_true,Wb,List.map_cons,List.map_nil,List.sum_cons,List.sum_nil];omega
 cases decide (t.kind=37);case true=>simp only [cond_true,cond_false,Wb,List.map_cons,List.map_nil,List.sum_cons,List.sum_nil];omega
 cases decide (t.kind=35);case true=>simp only [cond_true,cond_false,Wb,List.map_cons,List.map_nil,List.sum_cons,List.sum_nil];omega
 cases decide (t.kind=36);case true=>simp only [cond_true,cond_false,Wb,List.map_cons,List.map_nil,List.sum_cons,List.sum_nil];omega
 simp only [cond_false,Wb,List.map_cons,List.map_nil,List.sum_cons,List.sum_nil];omega
theorem Jag(X:∀ i,Cn (4*cN t i+1) (x i))(Xr:∀ i,i<t.kids.length→Cn (4*cN t i) (x i))(S:CSt):count (exR F t x S).1≤4*count t:=by
 have hp:=Un t;have h3:=Yee (t:=t);unfold exR;cases decide (t.kind=24);case true=>simp only [cond_true,Wb,List.map_nil,List.sum_nil];omega
 cases decide (t.kind=25);case true=>simp only [cond_true,cond_false,Wb,List.map_nil,List.sum_nil];omega
 cases decide (t.kind=26);case true=>simp only [cond_true,cond_false,Wb,List.map_nil,List.sum_nil];omega
 cases decide (t.kind=38)
 case true =>
  have h:=(X 0).blk (litS S);simp only [cond_true,cond_false,litR,Wb,List.map_cons,List.map_nil,List.sum_cons,List.sum_nil];omega
 cases decide (t.kind=30);case true=>exact Umg X Xr S
 cases decide (t.kind=27);case true=>simp only [cond_true,cond_false,Yde];omega
 cases decide (t.kind=28);case true=>exact Jme X S
 cases decide (t.kind=34);case true=>simp only [cond_true,cond_false,Wb,List.map_nil,List.sum_nil];omega
 exact cn_op X S
theorem Zuh(X:∀ i,Cn (4*cN t i+1) (x i))(S:CSt):count (rcvR F t x S).1≤4*count t:=by
 have hp:=Un t;unfold rcvR;cases decide (t.kind=27);cases decide (t.kind=28);simp only [cond_false,Zdc];omega;exact Jme X S;simp only [cond_true,Yde];omega
theorem Zvh(X:∀ i,Cn (4*cN t i+1) (x i))(Xr:∀ i,i<t.kids.length→Cn (4*cN t i) (x i))(S:CSt):count (calR F t x S).1.1≤4*count t:=by
 have hp:=Un t;have h3:=Yee (t:=t);have h1:=(X 0).mem S;have h2:=(X 0).rcv S;unfold calR;dsimp only;cases decide (t.kind=28)&&((x 0).rcv S).2;simp only [cond_false];cases decide (t.kind=27)&&((lookR F S t).2&&decide ((lookR F S t).1.ref=3));exact Jag X Xr S;simp only [cond_true,Yde];omega;unfold rcvX;cases decide ((Zb t 0).kind=28);simp only [cond_true,cond_false,Wb,List.map_cons,List.map_nil,List.sum_cons,List.sum_nil];omega;simp only [cond_true,Wb,List.map_cons,List.map_nil,List.sum_cons,List.sum_nil];omega
theorem Yog(Xr:∀ i,i<t.kids.length→Cn (4*cN t i) (x i))(S:CSt):∀ i,i≤t.kids.length→((stA x S i).1.map count).sum≤4*sC t i
 | 0,_=>Nat.zero_le _
 | i+1,hi=>by
  have ih:=Yog Xr S i (by omega);have h:=(Xr i (by omega)).st (stA x S i).2;show (((stA x S i).1++[_]).map count).sum≤4*(sC t i+cN t i);rw [List.map_append,List.sum_append];simp only [List.map_cons,List.map_nil,List.sum_cons,List.sum_nil];omega
theorem Jne(Xr:∀ i,i<t.kids.length→Cn (4*cN t i) (x i))(S:CSt):count (stsR t x S).1≤4*count t:=by
 have h:=Yog Xr S t.kids.length (Nat.le_refl _);have hs:=Vxa t t.kids.length;unfold stsR;rw [Wb];omega
theorem Yjf(X:∀ i,Cn (4*cN t i+1) (x i))(k:Nd)(S:CSt):count (condR k (x 0) S).1≤4*cN t 0+1:=by
 unfold condR;cases decide (k.kind=9);exact (X 0).ex S;simp only [cond_true,Xtb];omega
theorem Jbg(X:∀ i,Cn (4*cN t i+1) (x i))(S:CSt):count (ifR t x S).1≤4*count t:=by
 have h3:=Yee (t:=t);have h0:=Yjf X (Zb t 0) S;have h1:=(X 1).blk (condR (Zb t 0) (x 0) S).2;have h2:=(X 2).blk ((x 1).blk (condR (Zb t 0) (x 0) S).2).2;have h2':=(X 2).ifs ((x 1).blk (condR (Zb t 0) (x 0) S).2).2;unfold ifR;dsimp only;cases decide ((Zb t 2).kind=10);cases decide ((Zb t 2).kind=18);simp only [cond_false,Wb,Xtb,List.map_cons,List.map_nil,List.sum_cons,List.sum_nil];omega;simp only [cond_true,cond_false,Wb,List.map_cons,List.map_nil,List.sum_cons,List.sum_nil];omega;simp only [cond_true,Wb,List.map_cons,List.map_nil,List.sum_cons,List.sum_nil];omega
theorem Zwh(X:∀ i,Cn (4*cN t i+1) (x i))(f:Bool)(S:CSt):count (casR t x f S).1≤4*count t:=by
 have h3:=Yee (t:=t)
 have h0:count (bif decide ((Zb t 0).kind=9) then (clnT (Zb t 0),failU f t.pos 6 (openS S)) else (x 0).st (openS S)).1≤4*cN t 0+1:=by
  cases decide ((Zb t 0).kind=9);exact (X 0).st _;simp only [cond_true,Xtb];omega
 have h1:=(X 1).sts (bif decide ((Zb t 0).kind=9) then (clnT (Zb t 0),failU f t.pos 6 (openS S)) else (x 0).st (openS S)).2;unfold casR;dsimp only;simp only [Wb,List.map_cons,List.map_nil,List.sum_cons,List.sum_nil];omega
theorem Ykf(Xr:∀ i,i<t.kids.length→Cn (4*cN t i) (x i))(S:CSt):∀ i,i≤t.kids.length→((selA t x S i).1.map count).sum≤4*sC t i
 | 0,_=>Nat.zero_le _
 | i+1,hi=>by
  have ih:=Ykf Xr S i (by omega);have h:=(Xr i (by omega)).cas (selA t x S i).2.1 (selA t x S i).2.2;show (((selA t x S i).1++[_]).map count).sum≤4*(sC t i+cN t i);rw [List.map_append,List.sum_append];simp only [List.map_cons,List.map_nil,List.sum_cons,List.sum_nil];omega
theorem Ypg(t:Nd)(i:Nat):count (plainT (Zb t i))≤cN t i+1:=by
 rw [Xta,Zb,cN,List.getD_eq_getElem?_getD,List.getD_eq_getElem?_getD,List.getElem?_map]
 cases t.kids[i]? with
 | none=>exact Nat.le_of_eq Zdc
 | some k=>exact Nat.le_succ _
theorem cn_st(X:∀ i,Cn (4*cN t i+1) (x i))(Xr:∀ i,i<t.kids.length→Cn (4*cN t i) (x i))(S:CSt):count (stR F t x S).1≤4*count t:=by
 have hp:=Un t;have h3:=Yee (t:=t);unfold stR;dsimp only;cases decide (t.kind=10);case true=>exact Jne Xr (openS S)
 cases decide (t.kind=18);case true=>exact Jbg X S
 cases decide (t.kind=12)
 case true =>
  have h0:=(X 0).ex S;have h1:=fun S=>(X 1).ex S;simp only [cond_true,cond_false,asgR,Wb,List.map_cons,List.map_nil,List.sum_cons,List.sum_nil];have:=h1 (failU (((decide (((x 0).ex S).1.kind=27) && !decide (((x 0).ex S).1.ref=3)) || decide (((x 0).ex S).1.kind=28)) || decide (((x 0).ex S).1.kind=29)) (Zb t 0).pos 7 ((x 0).ex S).2);omega
 cases decide (t.kind=22)
 case true =>
  have h:=Ykf Xr S t.kids.length (Nat.le_refl _);have hs:=Vxa t t.kids.length;simp only [cond_true,cond_false,selR,Wb];omega
 cases decide (t.kind=6)
 case true =>
  have hk:=Ypg t 0;simp only [cond_true,cond_false,varR,dclT,Xsb,List.map_cons,List.map_nil,List.sum_cons,List.sum_nil];cases decide ((Zb t 1).kind=9);have:=(X 1).ex (localS F (Zb t 0) S);simp only [cond_false];omega;simp only [cond_true,Xtb];omega
 cases decide (t.kind=11)
 case true =>
  have h0:=(X 0).ex S;simp only [cond_true,cond_false,defR,dclT,Xsb,List.map_cons,List.map_nil,List.sum_cons,List.sum_nil];omega
 cases decide (t.kind=19)
 case true =>
  have h0:=Yjf X (Zb t 0) S;have h1:=(X 1).blk (condR (Zb t 0) (x 0) S).2;simp only [cond_true,cond_false,forR,Wb,List.map_cons,List.map_nil,List.sum_cons,List.sum_nil];omega
 cases decide (t.kind=20)
 case true =>
  simp only [cond_true,cond_false];unfold retR;dsimp only;cases decide ((t.kids.length:Int)=1);simp only [cond_false,Wb,List.map_nil,List.sum_nil];omega;have h0:=(X 0).ex (failU (!Bool.xor true (!tyEqB S.result ty0)) t.pos 7 S);simp only [cond_true,Wb,List.map_cons,List.map_nil,List.sum_cons,List.sum_nil];omega
 have h0:=(X 0).ex S;simp only [cond_false,wantS];cases decide (t.kind=16)
 case true =>
  have h1:=(X 1).ex (failU (decide (((x 0).ex S).1.ty.kind=6)) (Zb t 0).pos 7 ((x 0).ex S).2);simp only [cond_true,Wb,List.map_cons,List.map_nil,List.sum_cons,List.sum_nil];omega
 cases decide (t.kind=17);case true=>simp only [cond_true,cond_false,Wb,List.map_cons,List.map_nil,List.sum_cons,List.sum_nil];omega
 cases decide (t.kind=21);case true=>simp only [cond_true,cond_false,Wb,List.map_cons,List.map_nil,List.sum_cons,List.sum_nil];omega
 simp only [cond_false,Wb,List.map_cons,List.map_nil,List.sum_cons,List.sum_nil];omega
theorem cn_f(X:∀ i,Cn (4*cN t i+1) (x i))(Xr:∀ i,i<t.kids.length→Cn (4*cN t i) (x i)):Cn (4*count t) (ckF F t x) :=
 ⟨Jag X Xr,Jme X,Zuh X,Zvh X Xr,cn_st X Xr,fun S=>Jne Xr (openS S),Jbg X,Jne Xr,Zwh X⟩
end
theorem Cn.mono{n m:Nat}{c:Ck}(h:Cn n c)(hm:n≤m):Cn m c :=
 ⟨fun S=>Nat.le_trans (h.ex S) hm,fun S=>Nat.le_trans (h.mem S) hm,fun S=>Nat.le_trans (h.rcv S) hm,fun S=>Nat.le_trans (h.cal S) hm,fun S=>Nat.le_trans (h.st S) hm,fun S=>Nat.le_trans (h.blk S) hm,fun S=>Nat.le_trans (h.ifs S) hm,fun S=>Nat.le_trans (h.sts S) hm,fun f S=>Nat.le_trans (h.cas f S) hm⟩
theorem cn_0:Cn 1 ck0:=by
 have h:count nd0≤1:=Nat.le_of_eq Zdc;exact ⟨fun _=>h,fun _=>h,fun _=>h,fun _=>h,fun _=>h,fun _=>h,fun _=>h,fun _=>h,fun _ _=>h⟩
theorem cn_t(F:Nd):∀ t,Cn (4*count t) (ckT F t):=by
 refine Nd.ind fun t ih=>?_;rw [Yva]
 have hr:∀ i,i<t.kids.length→Cn (4*cN t i) (ckX F t i):=fun i h=>by
  rw [Vt h,Wg h];have:=ih _ (List.getElem_mem h);have e:cN t i=count t.kids[i]:=by simp [cN,List.getD_eq_getElem?_getD,List.getElem?_eq_getElem h]
  rw [e];exact this
 refine cn_f (fun i=>?_) hr;by_cases h:i<t.kids.length;exact (hr i h).mono (Nat.le_succ _);rw [ckX];simp only [List.getD_eq_getElem?_getD,List.getElem?_map];rw [List.getElem?_eq_none (by omega)];exact cn_0.mono (by omega)
theorem Joe(t:Nd)(i:Nat):count (Zb t i)≤cN t i+1:=by
 have:=Ypg t i;rwa [Xta] at this
theorem Yqg(F p:Nd)(S:CSt):∀ i,i≤p.kids.length→((parA F p S i).1.map count).sum≤sC p i
 | 0,_=>Nat.le_refl _
 | i+1,hi=>by
  have ih:=Yqg F p S i (by omega)
  have e:count (.mk (Zb p i).kind (Zb p i).text (declN (parA F p S i).2) (Zb p i).pos ((Zb p i).kids.map plainT) ty0 1 0)=count (Zb p i):=by
   rw [Xsb,Uw (Zb p i),List.map_map];congr 2;exact List.map_congr_left fun k _=>Xta k
  rw [parA,List.map_append,List.sum_append,sC,Vhc (by omega)];simp only [List.map_cons,List.map_nil,List.sum_cons,List.sum_nil,e];omega
theorem Zxh(F n:Nd)(S:CSt):count (dclR F n S).1≤8*count n:=by
 have hp:=Un n;unfold dclR;cases decide (n.kind=2);case true=>simp only [cond_true,Xta];omega
 cases decide (n.kind=6);case true=>simp only [cond_true,cond_false,Xta];omega
 cases decide (n.kind=4);simp only [cond_false,Xta];omega;have h3:=Yee (t:=n);have k0:=Joe n 0;have k1:=Joe n 1;have k2:=Joe n 2;have h1:=Yqg F (Zb n 0) (funS0 S) _ (Nat.le_refl _);have h2:=Vxa (Zb n 0) (Zb n 0).kids.length;have hb:=(cn_t F (Zb n 2)).sts (funS2 F n S);simp only [cond_true,cond_false,funR,Wb,Xta,List.map_cons,List.map_nil,List.sum_cons,List.sum_nil];omega
theorem Ylf(F:Nd)(S:CSt):∀ i,i≤F.kids.length→((dclA F S i).1.map count).sum≤8*sC F i
 | 0,_=>Nat.zero_le _
 | i+1,hi=>by
  have ih:=Ylf F S i (by omega);have h:=Zxh F (Zb F i) (dclA F S i).2;rw [dclA,List.map_append,List.sum_append,sC,Vhc (by omega)];simp only [List.map_cons,List.map_nil,List.sum_cons,List.sum_nil];omega
theorem Jpe(F:Nd):count (refCheck F).1≤8*count F:=by
 have hp:=Un F;have h0:=Zdc;unfold refCheck;cases validB F;simp only [cond_false];omega;cases decide ((refS F).ee=0);simp only [cond_true,cond_false];omega;have h1:=Ylf F (namA F rs0 F.kids.length) F.kids.length (Nat.le_refl _);have h2:=Vxa F F.kids.length;simp only [cond_true,refA,Wb];omega
theorem Ung:∀ (t:Nd) (C:List (List Dc)) (v:Int),(∀ k∈t.kids,Us C k)→∀ x∈visN t v,dclD x.1≠[]→0<x.1.kids.length:=by
 refine Nd.ind fun t ih C v h x hx=>?_;rw [Xja] at hx;obtain ⟨k,hk,hx⟩:=List.mem_flatMap.1 hx
 cases h k hk with
 | mk h1 h2 h0 h3 h4 =>
  rcases List.mem_cons.1 hx with e|hx;subst e;exact h0;exact ih k hk _ _ (fun y hy=>h4 y hy) x hx
theorem Zyh:∀ (t:Nd) (C:List (List Dc)) (v:Int),(∀ k∈t.kids,Us C k)→∀ x∈visN t v,useB x.1=true→
 ∃ n m e:Nat,x.1.up=n∧x.1.num=m∧x.2=v+e∧n<C.length+e∧∀ j:Nat,n=j+e→∃ l d,C[C.length-1-j]? = some l∧l[m]? = some d∧d.name=x.1.text∧d.typ=x.1.ty:=by
 refine Nd.ind fun t ih C v h x hx hu=>?_;rw [Xja] at hx;obtain ⟨k,hk,hx⟩:=List.mem_flatMap.1 hx
 cases h k hk with
 | mk h1 h2 h0 h3 h4 =>
  rcases List.mem_cons.1 hx with e|hx;subst e;obtain ⟨n,m,l,d,q1,q2,q3,q4,q5,q6,q7⟩:=h1 hu;exact ⟨n,m,0,q1,q2,by simp,by omega,fun j hj=>⟨l,d,by rw [show j=n by omega];exact q4,q5,q6,q7⟩⟩;obtain ⟨n,m,e,q1,q2,q3,q4,q5⟩:=ih k hk _ _ (fun y hy=>h4 y hy) x hx hu;cases hk38:decide (k.kind=38);rw [hk38,cond_false] at q4 q5;unfold upL at q3;rw [hk38,cond_false] at q3;exact ⟨n,m,e,q1,q2,q3,q4,q5⟩;rw [hk38,cond_true] at q4 q5;unfold upL at q3;rw [hk38,cond_true] at q3;rw [List.length_append,List.length_singleton] at q4;refine ⟨n,m,e+1,q1,q2,by rw [q3];omega,by omega,fun j hj=>?_⟩;obtain ⟨l,d,r1,r2⟩:=q5 (j+1) (by omega);refine ⟨l,d,?_,r2⟩;rw [List.length_append,List.length_singleton] at r1;have hj2:C.length+1-1-(j+1)=C.length-1-j:=by omega
  rw [hj2,List.getElem?_append_left (by omega)] at r1;exact r1
structure FnT (t:Nd):Prop where
  fn:fnB t=true
  ct:count t≤1000000
  kid:∀ x∈visN t 0,dclD x.1≠[]→0<x.1.kids.length
  par:∃ a b,locL t=a++b∧(∀ d∈a,d.par=true)∧∀ d∈b,d.par=false
  use:∀ x∈visN t 0,useB x.1=true→∃ n m e:Nat,x.1.up=n∧x.1.num=m∧x.2=e∧n≤1000000+e∧(t.kind=4→n≤e)∧(n=e→∃ d,(locL t)[m]? = some d∧d.name=x.1.text∧d.typ=x.1.ty)
theorem Jqe{t fn:Nd}(h:fn∈fnsT t):FnT fn:=by
 unfold fnsT at h;cases h1:decide ((250:Int)<(count t:Nat));case true=>rw [h1] at h;cases h
 rw [h1,cond_false] at h;have h1:=of_decide_eq_false h1;cases h2:decide ((refCheck t).2.2=0);case false=>rw [h2] at h;cases h
 rw [h2,cond_true] at h;have h2:=of_decide_eq_true h2
 have hv:validB t=true:=by
  cases hv:validB t;unfold refCheck at h2;rw [hv] at h2;exact absurd h2 (show ¬ (1:Int)=0 by decide);rfl
 have hc:=Jpe t
 have e:(refCheck t).1=refA t:=by
  unfold refCheck at h2 ⊢;rw [hv,cond_true] at h2 ⊢;cases he:decide ((refS t).ee=0);rw [he,cond_false] at h2;exact absurd h2 (of_decide_eq_false he);rfl
 rw [e] at h hc;obtain ⟨hm,hf⟩:=List.mem_filter.1 h
 have hk:fn.kind=4∨fn.kind=38:=by
  have:(decide (fn.kind=4) || decide (fn.kind=38))=true:=hf;simpa using this
 obtain ⟨C,hC,hl,hu,hpar⟩:=Ulg hv hm hk;have hcf:=Xvf _ _ hm;refine ⟨hf,by omega,Ung fn _ 0 hu,hpar,fun x hx hux=>?_⟩;obtain ⟨n,m,e,q1,q2,q3,q4,q5⟩:=Zyh fn _ 0 hu x hx hux;rw [List.length_append,List.length_singleton] at q4;refine ⟨n,m,e,q1,q2,by rw [q3];omega,by omega,fun h4=>?_,fun hne=>?_⟩;rw [hC h4] at q4;simp at q4;omega;obtain ⟨l,d,r1,r2⟩:=q5 0 (by omega);rw [List.length_append,List.length_singleton,List.getElem?_append_right (by omega)] at r1;have:C.length+1-1-0-C.length=0:=by omega
 rw [this] at r1;injection r1 with r1;subst r1;exact ⟨d,r2⟩
theorem Xsc(c:Int)(w:World):Ret PP Ygc #[.int .u8 c] w fun v w'=>v = .bool (letterB c)∧G w w':=by
 have g:=G.refl w;refine WK 21 [0] Vgb ?_;refine RTN ?_;exact ⟨rfl,g⟩
theorem Xub(c:Int)(w:World):Ret PP Wic #[.int .u8 c] w fun v w'=>v = .bool (digitB c)∧G w w':=by
 have g:=G.refl w;refine WK 9 [0] Qdb ?_;refine RTN ?_;exact ⟨rfl,g⟩
def intOk(l:List UInt8):Bool:=(decide (l.length≤19) && !(decide ((1:Int)<l.length)&&decide (cAt l 0=48)))&&decide ((valN 0 l:Int)<9223372036854775808)
theorem Vdf(a:Nat)(l:List UInt8)(c:UInt8):valN a (l++[c])=valN a l*10+(c.toNat-48):=by simp [valN]
theorem Jre(l:List UInt8)(h:allD l):valN 0 l<10 ^ l.length:=by
 have key:∀ (l:List UInt8),allD l→∀ a,valN a l<(a+1)*10 ^ l.length:=by
  intro l
  induction l with
  | nil=>intro _ a;show a<(a+1)*1;omega
  | cons c l ih =>
   intro h a;have hc:=h c (List.mem_cons_self ..);have:=ih (fun x hx=>h x (List.mem_cons_of_mem _ hx)) (a*10+(c.toNat-48));rw [Xhb,List.length_cons,Nat.pow_succ];refine Nat.lt_of_lt_of_le this ?_;rw [show (a+1)*(10 ^ l.length*10)=((a+1)*10)*10 ^ l.length by rw [Nat.mul_assoc,Nat.mul_comm 10]];exact Nat.mul_le_mul_right _ (by omega)
 simpa using key l h 0
theorem Qjd{l:List UInt8}{i:Nat}(h:i<l.length)(hd:allD l):(valN 0 (l.take (i+1)):Int)=10*(valN 0 (l.take i):Int)+(cAt l i-48)∧valN 0 (l.take i)<10 ^ i∧48≤cAt l i∧cAt l i≤57:=by
 have hm:l[i]∈l:=List.getElem_mem h;have hc:=hd _ hm;have ec:cAt l i=(l[i].toNat:Int):=by simp [cAt,List.getD_eq_getElem?_getD,List.getElem?_eq_getElem h]
 have hb:=Jre (l.take i) (fun c hc=>hd c (List.mem_of_mem_take hc));rw [List.length_take,Nat.min_eq_left (by omega)] at hb;refine ⟨?_,hb,by omega,by omega⟩;rw [List.take_succ_eq_append_getElem h,Vdf,ec];omega
theorem Jse(l:List UInt8)(hd:allD l)(hne:l≠[])(hl:l.length≤20000)(w:World):Ret PP Qeb #[Str l] w fun v w'=>(∃ x,v = .tuple #[.int .i64 x,.bool (intOk l)])∧G w w':=by
 have g:=G.refl w;refine WK 46 [0] Yrb ?_;refine AU ?_;refine Zi O O O (fun _=>Jj Yu (Zk O id) Xg (fun hc=>by have:=of_decide_eq_true hc.2;omega)) ?_;refine IF (fun h1=>?_) fun h1=>?_
 ·have hN:intOk l=false:=by
   rw [intOk];rw [Yvh hne,Bool.false_or] at h1;by_cases h19:l.length≤19
   ·rw [Yvh (by omega:¬ (19:Int)<l.length),Bool.false_or] at h1
    replace h1:(decide ((1:Int)<l.length)&&decide (cAt l 0=48))=true:=h1;rw [h1];simp
   · rw [Yvh h19];rfl
  refine RTN ?_;exact ⟨⟨0,by rw [hN]⟩,g⟩
 have h19:l.length≤19:=by
  cases h0:decide ((19:Int)<l.length)
  · have:=of_decide_eq_false h0;omega
  · rw [h0] at h1;simp at h1
 have hN:intOk l=decide ((valN 0 l:Int)<9223372036854775808):=by
  rw [intOk];rw [Yvh hne,Yvh (by omega:¬ (19:Int)<l.length),Bool.false_or,Bool.false_or] at h1;replace h1:(decide ((1:Int)<l.length)&&decide (cAt l 0=48))=false:=h1;rw [h1,Ywh h19,Bool.not_false,Bool.and_true,Bool.true_and]
 have h10:(10:Nat) ^ 19=10000000000000000000:=by decide
 refine AU ?_;refine Wpa (fun (i:Nat) u=>i≤l.length∧G w u) (fun i=>[(0,True,Str l),(4,True,.int .u64 (valN 0 (l.take i):Nat)),(5,True,.int .i64 i)]) (fun i=>l.length-i) 0 ⟨by omega,g⟩ (Za O (Za O (Za O (Zp _)))) ?_;rintro i u ⟨hi,g⟩;refine IF (fun h2=>?_) fun h2=>?_
 ·replace h2:i<l.length:=by simp only [decide_eq_true_eq] at h2;omega
  obtain ⟨e,hb,hc1,hc2⟩:=Qjd h2 hd;have hb2:valN 0 (l.take i)<10 ^ 18:=Nat.lt_of_lt_of_le hb (Nat.pow_le_pow_right (by decide) (by omega));have h18:(10:Nat) ^ 18=1000000000000000000:=by decide
  rw [h18] at hb2;refine AU ?_;refine CP (Xub _ _) (fun w32 g32=>?_);have g:=g.trans g32;refine IF (fun h3=>?_) fun h3=>?_
  ·exfalso
   replace h3:(!digitB (cAt l i))=true:=h3;rw [digitB,Ywh hc1,Ywh hc2] at h3;cases h3;done
  skip;refine Ya (kq (Wc [3,3,3,3,3,3,3,3,3] (Zq O (Zo O (fun _=>Zdf (r:=10*((valN 0 (l.take i):Nat):Int)) Xg (Zc O) (fun hc=>Vuc ⟨by omega,by omega⟩)) (Zq O (Zq O (Zo O (fun _=>Jj Yu (Zc O) (Zc O) (fun _=>by omega)) (Zo O (fun _=>Jxc (r:=cAt l i-48) (Zc O) Xg (fun hc=>Qpg ⟨by show 0≤cAt l i-48;omega,by show cAt l i-48≤255;omega⟩)) (Zo O (fun _=>Yre (r:=cAt l i-48) Xoe Jtb (Zc O) (fun hc=>Vuc ⟨by omega,by omega⟩)) (Zo O (fun _=>Zcf (r:=((valN 0 (l.take (i+1)):Nat):Int)) (Zc O) (Zc O) (fun hc=>(by rw [e];exact Vuc ⟨by omega,by omega⟩))) (Yo O (Ze (kq (Zm (Zq O (Qqa O O (by omega) (Yo O (?_))))))))))))))))));refine Vc [(0,_,_),(4,_,_),(5,_,_)] (Za O (Za O (Za O (Zp _)))) (Ze (fun a ha=>?_));exact ⟨i+1,ha,⟨h2,g⟩,by omega⟩
 have hi:i=l.length:=by simp only [decide_eq_false_iff_not] at h2;omega
 subst hi;refine Qs O (kq (Zj (Wc [3,3,3,3,3,3] (Zq O (Zo O (fun _=>Qqd Jtb Ucf (Zc O)) (Zq O (Xka O O (Yo O (Yo O (Ze (kq (Xd (Xzb (ts:=[2,3]) (vs:=[_,_]) O O O ?_)))))))))))));refine ⟨⟨IntKind.i64.wrap ((valN 0 (l.take l.length):Nat):Int),?_⟩,g⟩;rw [hN];have e:l.take l.length=l:=List.take_length;rw [e]
structure PSt where
  ix:Nat
  bad:Bool
def tkn(l:List Tok)(i:Nat):Tok:=l.getD i ⟨0,[],0⟩
def mkN(k:Int)(x:List UInt8)(n a:Int)(ks:List Nd):Nd:=.mk k x n a ks ty0 0 0
def nonN:Nd:=mkN 9 [] 0 0 []
def failQ(S:PSt):PSt:=⟨S.ix,true⟩
def adv(S:PSt):PSt:=⟨S.ix+1,S.bad⟩
def levelQ(s:List UInt8):Nat :=
 bif decide (s=[124,124]) then 1
 else bif decide (s=[38,38]) then 2
 else bif inB [[61,61],[33,61],[60],[60,61],[62],[62,61]] s then 3
 else bif inB [[43],[45]] s then 4
 else bif inB [[42],[47],[37]] s then 5
 else 0
def intQ(s:List UInt8):Int:=bif decide (s.length≤19) && !(decide ((1:Int)<s.length)&&decide (cAt s 0=48)) then IntKind.i64.wrap (valN 0 s:Nat) else 0
section
variable (l:List Tok) (sz:Int)
def peekQ(S:PSt)(k:Nat):List UInt8 :=
 bif (S.bad || decide ((l.length:Int)≤(S.ix:Int)+(k:Int))) || (!decide ((tkn l (S.ix+k)).kind=3) && !decide ((tkn l (S.ix+k)).kind=4)) then [] else (tkn l (S.ix+k)).text
def isQ(S:PSt)(s:List UInt8):Bool:=decide (peekQ l S 0=s)
def offQ(S:PSt):Int:=bif decide ((S.ix:Int)<l.length) then (tkn l S.ix).pos else sz
def isK(S:PSt)(kd:Int)(k:Nat):Bool:=(!S.bad&&decide ((S.ix:Int)+(k:Int)<l.length))&&decide ((tkn l (S.ix+k)).kind=kd)
def takeQ(s:List UInt8)(S:PSt):PSt:=bif isQ l S s then adv S else failQ S
def nameQ(S:PSt):List UInt8×PSt:=bif isK l S 1 0 then ((tkn l S.ix).text,adv S) else ([],failQ S)
def semiQ(S:PSt):PSt:=bif isQ l S [125] || decide ((l.length:Int)≤S.ix) then S else takeQ l [59] S
def endQ(S:PSt):PSt:=bif decide ((l.length:Int)≤(semiQ l S).ix) then failQ (semiQ l S) else semiQ l S
def typQ(S:PSt):Nd×PSt :=
 bif inB [[105,110,116],[98,111,111,108],[109,117,116,101,120],[114,119,109,117,116,101,120],[103,114,111,117,112],[111,110,99,101],[97,116,111,109,105,99]] (peekQ l S 0) then (mkN 7 (peekQ l S 0) 0 (offQ l sz S) [],adv S)
 else bif isQ l S [42] then (mkN 8 (nameQ l (adv S)).1 0 (offQ l sz S) [],(nameQ l (adv S)).2)
 else bif isQ l S [91] then (mkN 7 [91,93,105,110,116] 0 (offQ l sz S) [],takeQ l [105,110,116] (takeQ l [93] (adv S)))
 else bif isQ l S [99,104,97,110] then (mkN 7 [99,104,97,110] 0 (offQ l sz S) [],takeQ l [105,110,116] (adv S))
 else bif isQ l S [102,117,110,99] then (mkN 7 [102,117,110,99] 0 (offQ l sz S) [],takeQ l [41] (takeQ l [40] (adv S)))
 else (mkN 7 [] 0 (offQ l sz S) [],failQ S)
def fieldQ(S:PSt):Nd×PSt :=
 let a:=nameQ l S
 let t:=typQ l sz a.2
 (mkN 3 a.1 0 (offQ l sz S) [t.1],t.2)
def fldL:Nat→List Nd→PSt→List Nd×PSt
 | 0,acc,S=>(acc,S)
 | f+1,acc,S=>bif isQ l S [44] then fldL f (acc++[(fieldQ l sz (adv S)).1]) (fieldQ l sz (adv S)).2 else (acc,S)
def paramsQ(S:PSt):Nd×PSt :=
 let S1:=takeQ l [40] S
 bif isQ l S1 [41] then (mkN 5 [] 0 (offQ l sz S) [],adv S1)
 else
  let a:=fieldQ l sz S1
  let r:=fldL l sz (l.length+1) [a.1] a.2
  (mkN 5 [] 0 (offQ l sz S) r.1,takeQ l [41] r.2)
def strL:Nat→List Nd→PSt→List Nd×PSt
 | 0,acc,S=>(acc,S)
 | f+1,acc,S=>bif !S.bad && !isQ l S [125] then strL f (acc++[(fieldQ l sz S).1]) (endQ l (fieldQ l sz S).2) else (acc,S)
structure Pz where
  sts:Bool→PSt→List Nd×PSt
  blk:PSt→Nd×PSt
  ifs:PSt→Nd×PSt
  rcv:PSt→Nd×PSt
  sim:Bool→PSt→Nd×PSt
  sel:PSt→Nd×PSt
  st:PSt→Nd×PSt
  ex:Nat→PSt→Nd×PSt
  un:PSt→Nd×PSt
  pri:PSt→Nd×PSt
  opd:PSt→Nd×PSt
def pz0:Pz:=⟨fun _ S=>([],S),fun S=>(nd0,failQ S),fun S=>(nd0,failQ S),fun S=>(nd0,failQ S),fun _ S=>(nd0,failQ S),fun S=>(nd0,failQ S),fun S=>(nd0,failQ S),fun _ S=>(nd0,failQ S),fun S=>(nd0,failQ S),fun S=>(nd0,failQ S),fun S=>(nd0,failQ S)⟩
variable (x:Pz)
def stsC(c:Bool)(S:PSt):Bool:=(!S.bad && !isQ l S [125]) && !(c&&(isQ l S [99,97,115,101] || isQ l S [100,101,102,97,117,108,116]))
def stsL(c:Bool):Nat→List Nd→PSt→List Nd×PSt
 | 0,acc,S=>(acc,S)
 | f+1,acc,S=>bif stsC l c S then stsL c f (acc++[(x.st S).1]) (endQ l (x.st S).2) else (acc,S)
def stsQ(c:Bool)(S:PSt):List Nd×PSt:=stsL l x c (l.length+2) [] S
def blkQ(S:PSt):Nd×PSt :=
 let a:=x.sts false (takeQ l [123] S)
 (mkN 10 [] 0 (offQ l sz S) a.1,takeQ l [125] a.2)
def ifsQ(S:PSt):Nd×PSt :=
 let c:=x.ex 1 (takeQ l [105,102] S)
 let b:=x.blk c.2
 let e:=bif isQ l b.2 [101,108,115,101] then (bif isQ l (adv b.2) [105,102] then x.ifs (adv b.2) else x.blk (adv b.2)) else (nonN,b.2)
 (mkN 18 [] 0 (offQ l sz S) [c.1,b.1,e.1],e.2)
def rcvQ(S:PSt):Nd×PSt:=bif isQ l S [60,45] then x.un S else (nd0,failQ S)
def simQ(comm:Bool)(S:PSt):Nd×PSt :=
 bif isK l S 1 0&&decide (peekQ l S 1=[58,61]) then
  let v:=bif comm then x.rcv (adv (nameQ l S).2) else x.ex 1 (adv (nameQ l S).2)
  (mkN 11 (nameQ l S).1 0 (offQ l sz S) [v.1],v.2)
 else
  let a:=x.ex 1 S
  bif isQ l a.2 [61] then
   let b:=bif comm then x.rcv (adv a.2) else x.ex 1 (adv a.2)
   (mkN 12 [] 0 (offQ l sz a.2) [a.1,b.1],b.2)
  else bif isQ l a.2 [60,45] then
   let b:=x.ex 1 (adv a.2)
   (mkN 16 [] 0 (offQ l sz a.2) [a.1,b.1],b.2)
  else (mkN 13 [] 0 (offQ l sz S) [a.1],bif !decide (a.1.kind=33)&&(comm || !decide (a.1.kind=30)) then failQ a.2 else a.2)
def casQ(S:PSt):Nd×PSt:=bif isQ l S [100,101,102,97,117,108,116] then (nonN,adv S) else x.sim true (takeQ l [99,97,115,101] S)
def selL:Nat→List Nd→PSt→List Nd×PSt
 | 0,acc,S=>(acc,S)
 | f+1,acc,S =>
  bif !S.bad && !isQ l S [125] then
   let a:=casQ l x S
   let b:=x.sts true (takeQ l [58] a.2)
   selL f (acc++[mkN 23 [] 0 (offQ l sz S) [a.1,mkN 10 [] 0 (offQ l sz a.2) b.1]]) b.2
  else (acc,S)
def selQ(S:PSt):Nd×PSt :=
 let r:=selL l sz x (l.length+1) [] (takeQ l [123] (takeQ l [115,101,108,101,99,116] S))
 (mkN 22 [] 0 (offQ l sz S) r.1,takeQ l [125] r.2)
def varQ(S:PSt):Nd×PSt :=
 let a:=nameQ l (adv S)
 let t:=typQ l sz a.2
 let e:=bif isQ l t.2 [61] then x.ex 1 (adv t.2) else (nonN,t.2)
 (mkN 6 a.1 0 (offQ l sz S) [t.1,e.1],e.2)
def stQ(S:PSt):Nd×PSt :=
 bif isQ l S [118,97,114] then varQ l sz x S
 else bif isQ l S [103,111] || isQ l S [100,101,102,101,114] then
  let c:=x.pri (adv S)
  (mkN (bif isQ l S [100,101,102,101,114] then 15 else 14) [] 0 (offQ l sz S) [c.1],bif !decide (c.1.kind=30) then failQ c.2 else c.2)
 else bif isQ l S [99,108,111,115,101] || isQ l S [112,114,105,110,116] then
  let c:=x.ex 1 (takeQ l [40] (adv S))
  (mkN (bif isQ l S [112,114,105,110,116] then 21 else 17) [] 0 (offQ l sz S) [c.1],takeQ l [41] c.2)
 else bif isQ l S [105,102] then x.ifs S
 else bif isQ l S [102,111,114] then
  let c:=bif isQ l (adv S) [123] then (nonN,adv S) else x.ex 1 (adv S)
  let b:=x.blk c.2
  (mkN 19 [] 0 (offQ l sz S) [c.1,b.1],b.2)
 else bif isQ l S [114,101,116,117,114,110] then
  bif (!isQ l (adv S) [59] && !isQ l (adv S) [125])&&decide (((adv S).ix:Int)<l.length) then (mkN 20 [] 0 (offQ l sz S) [(x.ex 1 (adv S)).1],(x.ex 1 (adv S)).2)
  else (mkN 20 [] 0 (offQ l sz S) [],adv S)
 else bif isQ l S [115,101,108,101,99,116] then x.sel S
 else bif isQ l S [123] then x.blk S
 else x.sim false S
def exE(least:Nat)(S:PSt):Bool:=decide ((levelQ (peekQ l S 0):Int)=0) || decide ((levelQ (peekQ l S 0):Int)<least)
def exL(least:Nat):Nat→Nd→PSt→Nd×PSt
 | 0,a,S=>(a,S)
 | f+1,a,S =>
  bif !S.bad then
   bif exE l least S then (a,S)
   else
    let b:=x.ex (levelQ (peekQ l S 0)+1) (adv S)
    exL least f (mkN 32 (peekQ l S 0) 0 (offQ l sz S) [a,b.1]) b.2
  else (a,S)
def exQ(least:Nat)(S:PSt):Nd×PSt:=exL l sz x least (l.length+2) (x.un S).1 (x.un S).2
def unQ(S:PSt):Nd×PSt :=
 bif isQ l S [45] || isQ l S [33] then (mkN 31 (peekQ l S 0) 0 (offQ l sz S) [(x.un (adv S)).1],(x.un (adv S)).2)
 else bif isQ l S [60,45] then (mkN 33 [] 0 (offQ l sz S) [(x.un (adv S)).1],(x.un (adv S)).2)
 else x.pri S
def argL:Nat→List Nd→PSt→List Nd×PSt
 | 0,acc,S=>(acc,S)
 | f+1,acc,S=>bif isQ l S [44] then argL f (acc++[(x.ex 1 (adv S)).1]) (x.ex 1 (adv S)).2 else (acc,S)
def argQ(a:Nd)(S:PSt):List Nd×PSt :=
 bif isQ l S [41] then ([a],S)
 else argL l x (l.length+1) [a,(x.ex 1 S).1] (x.ex 1 S).2
def priL:Nat→Nd→PSt→Nd×PSt
 | 0,a,S=>(a,S)
 | f+1,a,S =>
  bif !S.bad then
   bif isQ l S [46] then priL f (mkN 28 (nameQ l (adv S)).1 0 (offQ l sz S) [a]) (nameQ l (adv S)).2
   else bif isQ l S [91] then priL f (mkN 29 [] 0 (offQ l sz S) [a,(x.ex 1 (adv S)).1]) (takeQ l [93] (x.ex 1 (adv S)).2)
   else bif isQ l S [40] then priL f (mkN 30 [] 0 (offQ l sz S) (argQ l x a (adv S)).1) (takeQ l [41] (argQ l x a (adv S)).2)
   else (a,S)
  else (a,S)
def priQ(S:PSt):Nd×PSt:=priL l sz x (l.length+2) (x.opd S).1 (x.opd S).2
def mkeQ(S:PSt):PSt:=takeQ l [44] (takeQ l [105,110,116] (bif isQ l S [99,104,97,110] then adv S else takeQ l [93] (takeQ l [91] S)))
def opdQ(S:PSt):Nd×PSt :=
 bif isK l S 1 0 then (mkN 27 (nameQ l S).1 0 (offQ l sz S) [],(nameQ l S).2)
 else bif isK l S 2 0 then (mkN 24 [] (intQ (tkn l S.ix).text) (offQ l sz S) [],adv S)
 else bif isQ l S [116,114,117,101] || isQ l S [102,97,108,115,101] then (mkN 25 [] (bif isQ l S [116,114,117,101] then 1 else 0) (offQ l sz S) [],adv S)
 else bif isQ l S [110,105,108] then (mkN 26 [] 0 (offQ l sz S) [],adv S)
 else bif isQ l S [40] then ((x.ex 1 (adv S)).1,takeQ l [41] (x.ex 1 (adv S)).2)
 else bif isQ l S [110,101,119] then (mkN 34 (nameQ l (takeQ l [40] (adv S))).1 0 (offQ l sz S) [],takeQ l [41] (nameQ l (takeQ l [40] (adv S))).2)
 else bif isQ l S [108,101,110] then (mkN 37 [] 0 (offQ l sz S) [(x.ex 1 (takeQ l [40] (adv S))).1],takeQ l [41] (x.ex 1 (takeQ l [40] (adv S))).2)
 else bif isQ l S [109,97,107,101] then
  let e:=x.ex 1 (mkeQ l (takeQ l [40] (adv S)))
  (mkN (bif isQ l (takeQ l [40] (adv S)) [99,104,97,110] then 36 else 35) [] 0 (offQ l sz S) [e.1],takeQ l [41] e.2)
 else bif isQ l S [102,117,110,99] then
  let b:=x.blk (takeQ l [41] (takeQ l [40] (adv S)))
  (mkN 38 [] 0 (offQ l sz S) [b.1],b.2)
 else (mkN 0 [] 0 (offQ l sz S) [],failQ S)
def pzF:Pz:=⟨stsQ l x,blkQ l sz x,ifsQ l sz x,rcvQ l x,simQ l sz x,selQ l sz x,stQ l sz x,exQ l sz x,unQ l sz x,priQ l sz x,opdQ l sz x⟩
def pzN:Nat→Pz
 | 0=>pz0
 | n+1=>pzF l sz (pzN n)
def funQ(S:PSt):Nd×PSt :=
 let a:=nameQ l (adv S)
 let p:=paramsQ l sz a.2
 let t:=bif isQ l p.2 [123] then (nonN,p.2) else typQ l sz p.2
 let b:=x.blk t.2
 (mkN 4 a.1 0 (offQ l sz S) [p.1,t.1,b.1],b.2)
def strQ(S:PSt):Nd×PSt :=
 let a:=nameQ l (adv S)
 let r:=strL l sz (l.length+2) [] (takeQ l [123] (takeQ l [115,116,114,117,99,116] a.2))
 (mkN 2 a.1 0 (offQ l sz S) r.1,takeQ l [125] r.2)
def declQ(S:PSt):Nd×PSt :=
 bif isQ l S [116,121,112,101] then strQ l sz S
 else bif isQ l S [118,97,114] then
  let a:=nameQ l (adv S)
  let t:=typQ l sz a.2
  (mkN 6 a.1 0 (offQ l sz S) [t.1,nonN],t.2)
 else bif isQ l S [102,117,110,99] then funQ l sz x S
 else (mkN 0 [] 0 (offQ l sz S) [],failQ S)
def prsL:Nat→List Nd→PSt→List Nd×PSt
 | 0,acc,S=>(acc,S)
 | f+1,acc,S =>
  bif !S.bad&&decide ((S.ix:Int)<l.length) then
   let d:=declQ l sz x S
   prsL f (acc++[d.1]) (bif decide ((d.2.ix:Int)<l.length) then takeQ l [59] d.2 else d.2)
  else (acc,S)
def prsT:List Nd×PSt:=prsL l sz (pzN l sz (8*l.length+20)) (l.length+1) [] ⟨0,false⟩
end
def fileN(ks:List Nd):Nd:=mkN 1 [] 0 0 ks
def parseF(s:List UInt8):Nd×Int×Int :=
 bif !decide ((scanF s).2.2=0) then (nd0,(scanF s).2.1,(scanF s).2.2)
 else
  let r:=prsT (scanF s).1 s.length
  bif r.2.bad then (nd0,offQ (scanF s).1 s.length r.2,4)
  else bif decide ((50:Int)<(depthN (fileN r.1):Nat)) then (nd0,0,3)
  else (fileN r.1,0,0)
def remQ(l:List Tok)(S:PSt):Nat:=bif S.bad then 0 else l.length-S.ix+1
def PLe(l:List Tok)(S T:PSt):Prop:=S.ix≤l.length→T.ix≤l.length∧remQ l T≤remQ l S
def PLt(l:List Tok)(S T:PSt):Prop:=S.ix≤l.length→T.ix≤l.length∧remQ l T≤remQ l S∧(S.bad=false→remQ l T<remQ l S)
section
variable {l:List Tok} {sz:Int} {S T U:PSt}
theorem Vqc(h:S.bad=true):remQ l S=0:=by rw [remQ,h];rfl
theorem Veb(h:S.bad=false):remQ l S=l.length-S.ix+1:=by rw [remQ,h];rfl
theorem PLe.refl(S:PSt):PLe l S S:=fun h=>⟨h,Nat.le_refl _⟩
theorem PLe.trans(h:PLe l S T)(k:PLe l T U):PLe l S U:=fun hS=>by
 obtain ⟨a,b⟩:=h hS;obtain ⟨c,d⟩:=k a;exact ⟨c,Nat.le_trans d b⟩
theorem PLt.le(h:PLt l S T):PLe l S T:=fun hS=>⟨(h hS).1,(h hS).2.1⟩
theorem PLt.tle(h:PLt l S T)(k:PLe l T U):PLt l S U:=fun hS=>by
 obtain ⟨a,b,c⟩:=h hS;obtain ⟨d,e⟩:=k a;exact ⟨d,Nat.le_trans e b,fun hb=>Nat.lt_of_le_of_lt e (c hb)⟩
theorem PLe.tlt(h:PLe l S T)(k:PLt l T U):PLt l S U:=fun hS=>by
 obtain ⟨a,b⟩:=h hS;obtain ⟨c,d,e⟩:=k a;refine ⟨c,Nat.le_trans d b,fun hb=>?_⟩;cases hT:T.bad;exact Nat.lt_of_lt_of_le (e hT) b;rw [Vqc hT] at d;rw [Veb hb];omega
theorem PLt.trans(h:PLt l S T)(k:PLt l T U):PLt l S U:=h.tle k.le
theorem Jv(S:PSt):PLt l S (failQ S):=fun hS=>by
 have e:remQ l (failQ S)=0:=rfl;exact ⟨hS,by omega,fun hb=>by rw [e,Veb hb];omega⟩
theorem Whd(S:PSt):PLe l S (failQ S):=(Jv S).le
theorem Yda(h:S.ix<l.length):PLt l S (adv S):=fun hS=>by
 refine ⟨h,?_,fun hb=>?_⟩;cases hb:S.bad;rw [Veb hb,Veb (S:=adv S) hb];show l.length-(S.ix+1)+1≤_;omega;rw [Vqc (S:=adv S) hb];omega;rw [Veb hb,Veb (S:=adv S) hb];show l.length-(S.ix+1)+1<_;omega
theorem Job{k:Nat}(h:peekQ l S k≠[]):S.bad=false∧S.ix+k<l.length:=by
 unfold peekQ at h;cases hb:S.bad;refine ⟨rfl,?_⟩;cases hd:decide ((l.length:Int)≤(S.ix:Int)+(k:Int));have:=of_decide_eq_false hd;omega;rw [hb,hd] at h;exact absurd rfl h;rw [hb] at h;exact absurd rfl h
theorem Vo{s:List UInt8}(h:isQ l S s=true)(hs:s≠[]):S.bad=false∧S.ix<l.length:=by
 have:=of_decide_eq_true h;exact Job (k:=0) (by rw [this];exact hs)
theorem Wid{kd:Int}{k:Nat}(h:isK l S kd k=true):S.bad=false∧S.ix+k<l.length:=by
 unfold isK at h;simp only [Bool.and_eq_true,Bool.not_eq_true',decide_eq_true_eq] at h;exact ⟨h.1.1,by have:=h.1.2;omega⟩
theorem Yrg{L:List (List UInt8)}(h:inB L (peekQ l S 0)=true)(hn:inB L []=false):S.ix<l.length:=by
 refine (Job (S:=S) (k:=0) fun e=>?_).2;rw [e,hn] at h;cases h
theorem Xv{s:List UInt8}(h:isQ l S s=true)(hs:s≠[]):PLt l S (adv S):=Yda (Vo h hs).2
theorem Wx{s:List UInt8}(hs:s≠[])(S:PSt):PLt l S (takeQ l s S):=by
 unfold takeQ;cases h:isQ l S s;exact Jv S;exact Xv h hs
theorem Ut{s:List UInt8}(hs:s≠[])(S:PSt):PLe l S (takeQ l s S):=(Wx hs S).le
theorem Jw(S:PSt):PLt l S (nameQ l S).2:=by
 unfold nameQ;cases h:isK l S 1 0;exact Jv S;exact Yda (Wid h).2
theorem Vqe(S:PSt):PLe l S (nameQ l S).2:=(Jw S).le
theorem Vre(S:PSt):PLe l S (semiQ l S):=by
 unfold semiQ;cases isQ l S [125] || decide ((l.length:Int)≤S.ix);exact Ut (by decide) S;exact PLe.refl S
theorem Zid(S:PSt):PLe l S (endQ l S):=by
 unfold endQ;cases decide ((l.length:Int)≤(semiQ l S).ix);exact Vre S;exact (Vre S).trans (Whd _)
theorem PLt.cond{b:Bool}{p q:Nd×PSt}(h:b=true→PLt l S p.2)(k:b=false→PLt l S q.2):PLt l S (bif b then p else q).2:=by
 cases b;exact k rfl;exact h rfl
theorem PLe.cond{α:Type}{b:Bool}{p q:α×PSt}(h:b=true→PLe l S p.2)(k:b=false→PLe l S q.2):PLe l S (bif b then p else q).2:=by
 cases b;exact k rfl;exact h rfl
theorem PLe.cond1{b:Bool}{p q:PSt}(h:b=true→PLe l S p)(k:b=false→PLe l S q):PLe l S (bif b then p else q):=by
 cases b;exact k rfl;exact h rfl
theorem Vfb(S:PSt):PLt l S (typQ l sz S).2:=by
 unfold typQ;refine PLt.cond (fun h=>Yda (Yrg h (by decide))) fun _=>?_;refine PLt.cond (fun h=>(Xv h (by decide)).trans (Jw _)) fun _=>?_;refine PLt.cond (fun h=>(Xv h (by decide)).trans ((Wx (by decide) _).trans (Wx (by decide) _))) fun _=>?_;refine PLt.cond (fun h=>(Xv h (by decide)).trans (Wx (by decide) _)) fun _=>?_;refine PLt.cond (fun h=>(Xv h (by decide)).trans ((Wx (by decide) _).trans (Wx (by decide) _))) fun _=>?_;exact Jv S
theorem Vfa(S:PSt):PLt l S (fieldQ l sz S).2:=(Jw S).trans (Vfb _)
theorem Vse:∀ (f:Nat) (acc:List Nd) (S:PSt),PLe l S (fldL l sz f acc S).2
 | 0,acc,S=>PLe.refl S
 | f+1,acc,S=>by
  rw [fldL];exact PLe.cond (fun h=>((Xv h (by decide)).trans (Vfa _)).le.trans (Vse f _ _)) fun _=>PLe.refl S
theorem Wjd(S:PSt):PLt l S (paramsQ l sz S).2:=by
 unfold paramsQ;refine (Wx (s:=[40]) (by decide) S).tle ?_;exact PLe.cond (fun h=>(Xv h (by decide)).le) fun _=>((Vfa _).tle ((Vse _ _ _).trans (Ut (by decide) _))).le
theorem Vte:∀ (f:Nat) (acc:List Nd) (S:PSt),PLe l S (strL l sz f acc S).2
 | 0,acc,S=>PLe.refl S
 | f+1,acc,S=>by
  rw [strL];exact PLe.cond (fun h=>(Vfa S).le.trans ((Zid _).trans (Vte f _ _))) fun _=>PLe.refl S
structure PzD (l:List Tok) (x:Pz):Prop where
  sts:∀ c S,PLe l S (x.sts c S).2
  bad:∀ c S,S.bad=true→x.sts c S=([],S)
  blk:∀ S,PLt l S (x.blk S).2
  ifs:∀ S,PLt l S (x.ifs S).2
  rcv:∀ S,PLt l S (x.rcv S).2
  sim:∀ c S,PLt l S (x.sim c S).2
  sel:∀ S,PLt l S (x.sel S).2
  st:∀ S,PLt l S (x.st S).2
  ex:∀ k S,PLt l S (x.ex k S).2
  un:∀ S,PLt l S (x.un S).2
  pri:∀ S,PLt l S (x.pri S).2
  opd:∀ S,PLt l S (x.opd S).2
theorem Jcg:PzD l pz0:=⟨fun _ S=>PLe.refl S,fun _ _ _=>rfl,Jv,Jv,Jv,fun _=>Jv,Jv,Jv,fun _=>Jv,Jv,Jv,Jv⟩
variable {x:Pz}
theorem Vue(X:PzD l x)(c:Bool):∀ (f:Nat) (acc:List Nd) (S:PSt),PLe l S (stsL l x c f acc S).2
 | 0,acc,S=>PLe.refl S
 | f+1,acc,S=>by
  rw [stsL];exact PLe.cond (fun h=>(X.st S).le.trans ((Zid _).trans (Vue X c f _ _))) fun _=>PLe.refl S
theorem Uog(X:PzD l x)(S:PSt):PLt l S (blkQ l sz x S).2:=(Wx (by decide) S).tle ((X.sts _ _).trans (Ut (by decide) _))
theorem Upg(X:PzD l x)(S:PSt):PLt l S (ifsQ l sz x S).2:=by
 unfold ifsQ;refine (Wx (s:=[105,102]) (by decide) S).trans ((X.ex 1 _).trans ((X.blk _).tle ?_));refine PLe.cond (fun h=>(Xv h (by decide)).le.trans ?_) fun _=>PLe.refl _;exact PLe.cond (fun _=>(X.ifs _).le) fun _=>(X.blk _).le
theorem Uqg(X:PzD l x)(S:PSt):PLt l S (rcvQ l x S).2:=PLt.cond (fun _=>X.un S) fun _=>Jv S
theorem Urg(X:PzD l x)(c:Bool)(S:PSt):PLt l S (simQ l sz x c S).2:=by
 unfold simQ;refine PLt.cond (fun h=>?_) fun _=>(X.ex 1 S).tle ?_;have h2:peekQ l S 1=[58,61]:=of_decide_eq_true (Bool.and_eq_true_iff.1 h).2;have h3:=(Job (S:=S) (k:=1) (by rw [h2];decide)).2;have hn:(nameQ l S).2=adv S:=by unfold nameQ;rw [(Bool.and_eq_true_iff.1 h).1];rfl
 rw [hn];refine (Yda (by omega)).trans ((Yda (S:=adv S) h3).trans ?_);exact PLt.cond (fun _=>X.rcv _) fun _=>X.ex 1 _;refine PLe.cond (fun h=>(Xv h (by decide)).le.trans ?_) fun _=>?_;exact PLe.cond (fun _=>(X.rcv _).le) fun _=>(X.ex 1 _).le;refine PLe.cond (fun h=>(Xv h (by decide)).le.trans (X.ex 1 _).le) fun _=>?_;exact PLe.cond1 (fun _=>Whd _) fun _=>PLe.refl _
theorem Yfe(X:PzD l x)(S:PSt):PLt l S (casQ l x S).2:=PLt.cond (fun h=>Xv h (by decide)) fun _=>(Wx (by decide) S).trans (X.sim true _)
theorem Vve(X:PzD l x):∀ (f:Nat) (acc:List Nd) (S:PSt),PLe l S (selL l sz x f acc S).2
 | 0,acc,S=>PLe.refl S
 | f+1,acc,S=>by
  rw [selL];exact PLe.cond (fun h=>(Yfe X S).le.trans ((Ut (by decide) _).trans ((X.sts true _).trans (Vve X f _ _)))) fun _=>PLe.refl S
theorem Usg(X:PzD l x)(S:PSt):PLt l S (selQ l sz x S).2:=(Wx (by decide) S).tle ((Ut (by decide) _).trans ((Vve X _ _ _).trans (Ut (by decide) _)))
theorem Zzh(X:PzD l x)(S:PSt):PLt l S (stQ l sz x S).2:=by
 unfold stQ;refine PLt.cond (fun h=>?_) fun _=>?_;refine (Xv h (by decide)).trans ((Jw _).trans ((Vfb (sz:=sz) _).tle ?_));exact PLe.cond (fun h=>(Xv h (by decide)).le.trans (X.ex 1 _).le) fun _=>PLe.refl _;refine PLt.cond (fun h=>?_) fun _=>?_
 have hi:S.ix<l.length:=by
  rcases Bool.or_eq_true_iff.1 h with h|h;exact (Vo h (by decide)).2;exact (Vo h (by decide)).2
 refine (Yda hi).trans ((X.pri _).tle ?_);exact PLe.cond1 (fun _=>Whd _) fun _=>PLe.refl _;refine PLt.cond (fun h=>?_) fun _=>?_
 have hi:S.ix<l.length:=by
  rcases Bool.or_eq_true_iff.1 h with h|h;exact (Vo h (by decide)).2;exact (Vo h (by decide)).2
 exact (Yda hi).trans ((Wx (by decide) _).trans ((X.ex 1 _).trans (Wx (by decide) _)));refine PLt.cond (fun _=>X.ifs S) fun _=>?_;refine PLt.cond (fun h=>?_) fun _=>?_;refine (Xv h (by decide)).trans (PLe.tlt ?_ (X.blk _));exact PLe.cond (fun _=>PLe.refl _) fun _=>(X.ex 1 _).le;refine PLt.cond (fun h=>?_) fun _=>?_;refine (Xv h (by decide)).tle ?_;exact PLe.cond (fun _=>(X.ex 1 _).le) fun _=>PLe.refl _;refine PLt.cond (fun _=>X.sel S) fun _=>?_;exact PLt.cond (fun _=>X.blk S) fun _=>X.sim false S
theorem Jte:levelQ []=0:=by decide
theorem Ysg{k:Nat}(h:exE l k S=false):S.ix<l.length:=by
 refine (Job (S:=S) (k:=0) fun e=>?_).2;unfold exE at h;rw [e,Jte] at h;cases h
theorem Ymf(X:PzD l x)(k:Nat):∀ (f:Nat) (a:Nd) (S:PSt),PLe l S (exL l sz x k f a S).2
 | 0,a,S=>PLe.refl S
 | f+1,a,S=>by
  rw [exL];refine PLe.cond (fun _=>?_) fun _=>PLe.refl S;exact PLe.cond (fun _=>PLe.refl S) fun h=>(Yda (Ysg h)).le.trans ((X.ex _ _).le.trans (Ymf X k f _ _))
theorem Yah(X:PzD l x)(k:Nat)(S:PSt):PLt l S (exQ l sz x k S).2:=(X.un S).tle (Ymf X k _ _ _)
theorem Ybh(X:PzD l x)(S:PSt):PLt l S (unQ l sz x S).2:=by
 unfold unQ;refine PLt.cond (fun h=>?_) fun _=>?_
 have hi:S.ix<l.length:=by
  rcases Bool.or_eq_true_iff.1 h with h|h;exact (Vo h (by decide)).2;exact (Vo h (by decide)).2
 exact (Yda hi).trans (X.un _);exact PLt.cond (fun h=>(Xv h (by decide)).trans (X.un _)) fun _=>X.pri S
theorem Vwe(X:PzD l x):∀ (f:Nat) (acc:List Nd) (S:PSt),PLe l S (argL l x f acc S).2
 | 0,acc,S=>PLe.refl S
 | f+1,acc,S=>by
  rw [argL];exact PLe.cond (fun h=>(Xv h (by decide)).le.trans ((X.ex 1 _).le.trans (Vwe X f _ _))) fun _=>PLe.refl S
theorem Utg(X:PzD l x)(a:Nd)(S:PSt):PLe l S (argQ l x a S).2:=PLe.cond (fun _=>PLe.refl S) fun _=>(X.ex 1 S).le.trans (Vwe X _ _ _)
theorem Vrc(X:PzD l x):∀ (f:Nat) (a:Nd) (S:PSt),PLe l S (priL l sz x f a S).2
 | 0,a,S=>PLe.refl S
 | f+1,a,S=>by
  rw [priL];refine PLe.cond (fun _=>?_) fun _=>PLe.refl S;refine PLe.cond (fun h=>(Xv h (by decide)).le.trans ((Vqe _).trans (Vrc X f _ _))) fun _=>?_;refine PLe.cond (fun h=>(Xv h (by decide)).le.trans ((X.ex 1 _).le.trans ((Ut (by decide) _).trans (Vrc X f _ _)))) fun _=>?_;exact PLe.cond (fun h=>(Xv h (by decide)).le.trans ((Utg X _ _).trans ((Ut (by decide) _).trans (Vrc X f _ _)))) fun _=>PLe.refl S
theorem Uug(X:PzD l x)(S:PSt):PLt l S (priQ l sz x S).2:=(X.opd S).tle (Vrc X _ _ _)
theorem Ynf(S:PSt):PLe l S (mkeQ l S):=by
 unfold mkeQ;refine PLe.trans ?_ ((Ut (by decide) _).trans (Ut (by decide) _));exact PLe.cond1 (fun h=>(Xv h (by decide)).le) fun _=>(Ut (by decide) _).trans (Ut (by decide) _)
theorem Uvg(X:PzD l x)(S:PSt):PLt l S (opdQ l sz x S).2:=by
 unfold opdQ;refine PLt.cond (fun _=>Jw S) fun _=>?_;refine PLt.cond (fun h=>Yda (Wid h).2) fun _=>?_;refine PLt.cond (fun h=>?_) fun _=>?_
 have hi:S.ix<l.length:=by
  rcases Bool.or_eq_true_iff.1 h with h|h;exact (Vo h (by decide)).2;exact (Vo h (by decide)).2
 exact Yda hi;refine PLt.cond (fun h=>Xv h (by decide)) fun _=>?_;refine PLt.cond (fun h=>(Xv h (by decide)).trans ((X.ex 1 _).trans (Wx (by decide) _))) fun _=>?_;refine PLt.cond (fun h=>(Xv h (by decide)).trans ((Wx (by decide) _).trans ((Jw _).trans (Wx (by decide) _)))) fun _=>?_;refine PLt.cond (fun h=>(Xv h (by decide)).trans ((Wx (by decide) _).trans ((X.ex 1 _).trans (Wx (by decide) _)))) fun _=>?_;refine PLt.cond (fun h=>(Xv h (by decide)).trans ((Wx (by decide) _).tle ((Ynf _).trans ((X.ex 1 _).le.trans (Ut (by decide) _))))) fun _=>?_;refine PLt.cond (fun h=>(Xv h (by decide)).trans ((Wx (by decide) _).trans ((Wx (by decide) _).trans (X.blk _)))) fun _=>?_;exact Jv S
theorem pzd_f(X:PzD l x):PzD l (pzF l sz x) :=
 ⟨fun c S=>Vue X c _ _ S,fun c S h=>by
 show stsL l x c (l.length+2) [] S=_;rw [stsL];unfold stsC;rw [h];rfl,Uog X,Upg X,Uqg X,Urg X,Usg X,Zzh X,Yah X,Ybh X,Uug X,Uvg X⟩
theorem Ytg:∀ n,PzD l (pzN l sz n)
 | 0=>Jcg
 | n+1=>pzd_f (Ytg n)
theorem Vxe(X:PzD l x)(S:PSt):PLt l S (declQ l sz x S).2:=by
 unfold declQ;refine PLt.cond (fun h=>?_) fun _=>?_;exact (Xv h (by decide)).trans ((Jw _).tle ((Ut (by decide) _).trans ((Ut (by decide) _).trans ((Vte _ _ _).trans (Ut (by decide) _)))));refine PLt.cond (fun h=>(Xv h (by decide)).trans ((Jw _).trans (Vfb _))) fun _=>?_;refine PLt.cond (fun h=>?_) fun _=>Jv S;refine (Xv h (by decide)).trans ((Jw _).trans ((Wjd (sz:=sz) _).tle (PLe.trans ?_ (X.blk _).le)));exact PLe.cond (fun _=>PLe.refl _) fun _=>(Vfb _).le
end
def mutP(e:Nat):Bool:=Nat.beq e Uv
@[reducible] def gtP(n0:Nat):RelX:=⟨fun w w'=>GT mutP n0 w w',GT.refl mutP n0,fun h k=>GT.trans h k⟩
def pkCells(l:List Tok)(sz:Int)(tp:Option Addr)(tc:Nat)(S:PSt):List Value:=[.slice tp l.length tc,.int .i64 S.ix,.int .i64 sz,.bool S.bad]
section
variable {P:Program} {n:Nat} {N T:Act→World→Prop} {X:List (Nat×(Act→World→Prop))} {σ:List Ent} {w:World}
theorem Uwg{x y:Code}{α:Type}(τ:α→List Ent)(R:α→World→Prop)(h1:SC P n x (fun a w=>∃ z,Kn n (τ z) a∧R z w) X T σ w)(h2:∀ z u,R z u→SC P n y N X T (τ z) u):SC P n (.seq x y) N X T σ w :=
 Ws fun K hK=>.mk fun a ha=>Code.wp_mono (fun e a w q=>by
 cases e with
 | normal =>
  obtain ⟨z,h,r⟩:=q;exact hK _ _ (h2 z w r) a h
 | _=>exact q) (h1 a ha)
end
theorem Obk.swap{w:World}{L:List (Nat×TypeId×List Value)}{x0 x1:Nat×TypeId×List Value}(E:Obk w (x0::x1::L)):Obk w (x1::x0::L):=by
 obtain ⟨h,h1,h2,h3⟩:=E;simp only [List.map_cons,List.nodup_cons,List.mem_cons,not_or] at h;refine ⟨?_,h2,h1,h3⟩;simp only [List.map_cons,List.nodup_cons,List.mem_cons,not_or];exact ⟨⟨fun q=>h.1.1 q.symm,h.2.1⟩,h.1.2,h.2.2⟩
structure PR (l:List Tok) (sz:Int) (n0 b:Nat) (tp:Option Addr) (tc:Nat) (S:PSt) (w:World):Prop where
  B:Blk w b Uv (pkCells l sz tp tc S)
  hb:n0≤b
  ht:w.ownsRow 0 Vx 3 (.slice tp l.length tc) l.length (toksCells l)
  hi:S.ix≤l.length
  hl:l.length≤100000
section
variable {l:List Tok} {sz:Int} {n0 b tc:Nat} {tp:Option Addr} {S S':PSt} {w w':World}
theorem PR.grow(h:PR l sz n0 b tp tc S w)(g:G w w'):PR l sz n0 b tp tc S w':=⟨h.B.grow g,h.hb,Xz h.ht g,h.hi,h.hl⟩
theorem PR.lt(h:PR l sz n0 b tp tc S w):n0≤b∧b<w.heap.size:=⟨h.hb,h.B.lt⟩
theorem Wkd{e e':TypeId}{base z m j:Nat}{v:Value}{xs l:List Value}(h:w.ownsRow base e z v m xs)(hB:Blk w j e' l)(he:Nat.beq e e'=false):v.ownBlock=none∨v.ownBlock≠some j:=.inr (fun hk=>by
 rcases h.2 with ⟨h1,_⟩|⟨g,cap,cur,h1,h2,h3,_⟩;rw [h1] at hk;cases hk;rw [h1] at hk;have:g=j:=by injection hk
 subst this;unfold Blk at hB;rw [hB] at h3;injection h3 with h3;injection h3 with _ h3;subst h3;simp at he)
theorem PR.set(h:PR l sz n0 b tp tc S w)(hg:w.grownBy w' (some b))(hB:Blk w' b Uv (pkCells l sz tp tc S'))(hi:S'.ix≤l.length):PR l sz n0 b tp tc S' w' :=
 ⟨hB,h.hb,Xw h.ht hg (Wkd h.ht h.B rfl),hi,h.hl⟩
theorem PR.keep{j:Nat}{e:TypeId}{xs:List Value}(h:PR l sz n0 b tp tc S w)(hg:w.grownBy w' (some j))(hB:Blk w j e xs)(he:Nat.beq Vx e=false)(he':Nat.beq Uv e=false):PR l sz n0 b tp tc S w' :=
 ⟨h.B.keep hg (by intro q;injection q with q;exact Zte h.B hB he' q),h.hb,Xw h.ht hg (Wkd h.ht hB he),h.hi,h.hl⟩
theorem PR.keepO{X:List Nat}{lo:Nat}{ks:List Nd}{s:Value}(h:PR l sz n0 b tp tc S w)(hg:w.grownBy w' s.ownBlock)(hO:OwnN X lo w ks s):PR l sz n0 b tp tc S w':=by
 have hne:∀ k,s.ownBlock=some k→NdR w k:=hO.nd;refine ⟨h.B.keep hg fun q=>?_,h.hb,Xw h.ht hg ?_,h.hi,h.hl⟩;obtain ⟨cs,fr,hn⟩:=hne b q.symm;have:=h.B;unfold Blk at this;rw [this] at hn;injection hn with hn;injection hn with _ hn;exact absurd hn (by decide);rcases h.ht.2 with ⟨h1,_⟩|⟨g,cap,cur,h1,h2,h3,_⟩;exact .inl (by rw [h1];rfl);refine .inr fun q=>?_;rw [h1] at q;obtain ⟨cs,fr,hn⟩:=hne g q.symm;rw [h3] at hn;injection hn with hn;injection hn with _ hn;exact absurd hn (by decide)
theorem Utc(h:w.ownsRow 0 Vx 3 (.slice tp l.length tc) l.length (toksCells l)):∀ i,i<l.length→tp=some ⟨pb tp,po tp,none⟩∧RowAt w (pb tp) (po tp+i*3) (tokCells (tkn l i)):=fun i hi=>by
 obtain ⟨g,c',hv',_,hR,_⟩:=Uta h (by omega);injection hv' with e1 _ _;subst e1;have e:tkn l i=l[i]:=by simp [tkn,List.getD_eq_getElem?_getD,List.getElem?_eq_getElem hi]
 rw [e];exact ⟨rfl,Jvb (f:=tokCells) (z:=3) (fun _=>rfl) hR hi⟩
end
section
variable {l:List Tok} {sz:Int} {n0 b tc:Nat} {tp:Option Addr} {S:PSt} {w:World}
theorem Uxa(k:Nat)(hk:k≤10)(h:PR l sz n0 b tp tc S w):Ret PP Xdc #[.pointer (some ⟨b,0,none⟩),.int .i64 (k:Nat)] w fun r w'=>r=Str (peekQ l S k)∧G w w':=by
 have hi:=h.hi;have hl:=h.hl;have hat:=Utc h.ht;have g:=G.refl w;refine WK 55 [0,1] Uub ?_;refine AU ?_;refine Zi O O O (fun _=>Yz Xf (Zk O id) (Zk O id) (fun hc=>by have:=hc.2;simp only [Bool.or_eq_false_iff,decide_eq_false_iff_not] at this;omega) (fun hc=>(hat (S.ix+k) (by have:=hc.2;simp only [Bool.or_eq_false_iff,decide_eq_false_iff_not] at this;omega)).1)) ?_;refine AU ?_;refine Ye O O O (Zt Yd (Zk O id) (fun hc=>((hat (S.ix+k) (by have:=hc.2;simp only [Bool.or_eq_false_iff,decide_eq_false_iff_not] at this;omega)).2).one (i:=0) O)) ?_;refine AU ?_;refine Zi O O O (fun _=>Yz Xf (Zk O id) (Zk O id) (fun hc=>by have:=hc.1.2;simp only [Bool.or_eq_false_iff,decide_eq_false_iff_not] at this;omega) (fun hc=>(hat (S.ix+k) (by have:=hc.1.2;simp only [Bool.or_eq_false_iff,decide_eq_false_iff_not] at this;omega)).1)) ?_;refine AU ?_;refine Ye O O O (Zt Yd (Zk O id) (fun hc=>((hat (S.ix+k) (by have:=hc.1.2;simp only [Bool.or_eq_false_iff,decide_eq_false_iff_not] at this;omega)).2).one (i:=0) O)) ?_;refine IF (fun h1=>?_) fun h1=>?_;have e:peekQ l S k=[]:=by unfold peekQ;rw [h1];rfl
 refine Zj (Zm (Yo O (Ze (kq (Xd (Vy O O ?_))))));rw [e];exact ⟨rfl,g⟩;have e:peekQ l S k=(tkn l (S.ix+k)).text:=by unfold peekQ;rw [h1];rfl
 have hlt:S.ix+k<l.length:=by simp only [Bool.or_eq_false_iff,decide_eq_false_iff_not] at h1;have:=h1.1.2;omega
 refine Ya (kq (Zj (Zm (Zq O (Ql O (Yj Uo O (Yq Vl O (h.B.at_ O) (Zq O (Zo O (fun _=>Yz Xf (Zc O) (Zc O) (fun hc=>by omega) (fun hc=>(hat (S.ix+k) hlt).1)) (Yj Qu O (Wea O (Zt Yg (Zc O) (fun hc=>((hat (S.ix+k) hlt).2).one (i:=1) O)) (Yo O (Ze (kq (Xd (Vy O O ?_))))))))))))))));rw [e];exact ⟨rfl,g⟩
theorem Uka(s:List UInt8)(h:PR l sz n0 b tp tc S w):Ret PP Vyc #[.pointer (some ⟨b,0,none⟩),Str s] w fun r w'=>r = .bool (isQ l S s)∧G w w':=by
 have g:=G.refl w;refine WK 9 [0,1] Xfc ?_;refine AU ?_;refine CP (Uxa 0 (by omega) (h.grow g)) (fun w6 g6=>?_);have g:=g.trans g6;refine RTN ?_;exact ⟨rfl,g⟩
theorem Vv(h:PR l sz n0 b tp tc S w):Ret PP Utb #[.pointer (some ⟨b,0,none⟩)] w fun r w'=>r = .int .i64 (offQ l sz S)∧G w w':=by
 have hi:=h.hi;have hat:=Utc h.ht;have g:=G.refl w;refine WK 28 [0] Wbb ?_;refine AU ?_;refine Xe [3,3,3,0,3,3,3,0,3,3] [true,true,true,true,true,true,true,true,true,true] [0,1,3,7,0,16,48,112,240,511] mix (by kernel_rfl) ?_;have g:=gdr g;refine IF (fun h1=>?_) fun h1=>?_;have e:offQ l sz S=(tkn l S.ix).pos:=by unfold offQ;rw [h1];rfl
 have hlt:S.ix<l.length:=by have:=of_decide_eq_true h1;omega
 refine Zj (Xe [3,3,3,0,3,3,3,0,3,3,0,3] [true,true,true,true,true,true,true,true,true,true,true,true] [0,1,3,7,0,16,48,112,255,511,1023,2047] mix (by kernel_rfl) ?_);have g:=gdr g;refine Zq O (Ql O (Yj Uo O (Yq Vl O (h.B.at_ O) (Zq O (Ql O (Yj Qn O (Yq Yd O (h.B.at_ O) (Zo O (fun _=>Yz Xf (Zc O) (Zc O) (fun hc=>by omega) (fun hc=>(hat S.ix hlt).1)) (Yj Qrb O (Wea O (Zt Yd (Zc O) (fun hc=>((hat S.ix hlt).2).one (i:=2) O)) (Yo O (Ze (kq (Xd (Vy O O ?_)))))))))))))));rw [e];exact ⟨rfl,g⟩;have e:offQ l sz S=sz:=by unfold offQ;rw [h1];rfl
 refine Ya (kq (Zj (Zm (Zq O (Ql O (Yj Xga O (Yq Yd O (h.B.at_ O) (Yo O (Ze (kq (Xd (Vy O O ?_))))))))))));rw [e];exact ⟨rfl,g⟩
theorem Zec(kd:Int)(k:Nat)(hk:k≤10)(h:PR l sz n0 b tp tc S w):Ret PP Qab #[.pointer (some ⟨b,0,none⟩),.int .i64 kd,.int .i64 (k:Nat)] w fun r w'=>r = .bool (isK l S kd k)∧G w w':=by
 have hi:=h.hi;have hl:=h.hl;have hat:=Utc h.ht;have g:=G.refl w;refine WK 40 [0,1,2] Whb ?_;refine AU ?_;refine Zi O O O (fun _=>Yz Xf (Zk O id) (Zk O id) (fun hc=>by have:=hc.2;simp only [Bool.and_eq_true,decide_eq_true_eq] at this;omega) (fun hc=>(hat (S.ix+k) (by have:=hc.2;simp only [Bool.and_eq_true,decide_eq_true_eq] at this;omega)).1)) ?_;refine AU ?_;refine Ye O O O (Zt Yd (Zk O id) (fun hc=>((hat (S.ix+k) (by have:=hc.2;simp only [Bool.and_eq_true,decide_eq_true_eq] at this;omega)).2).one (i:=0) O)) ?_;refine RTN ?_;exact ⟨rfl,g⟩
theorem Uaa(h:PR l sz n0 b tp tc S w):Ret PP Xgc #[.pointer (some ⟨b,0,none⟩)] w fun r w'=>r = .tuple #[]∧PR l sz n0 b tp tc (failQ S) w'∧GT mutP n0 w w':=by
 have hi:=h.hi;have g:=GT.refl mutP n0 w;refine WK 5 [0] Uwb ?_;refine AU ?_;refine Ym O Jyc (Zc O) Xg O h.B O O ?_;intro wS1 hgS1 _ BS;have g:=Wu g hgS1 h.B rfl h.hb;have h:=h.set (S':=failQ S) hgS1 BS hi;refine Ze (Qj O ?_);exact ⟨rfl,h,g⟩
theorem Wj(s:List UInt8)(hs:s≠[])(h:PR l sz n0 b tp tc S w):Ret PP Xcc #[.pointer (some ⟨b,0,none⟩),Str s] w fun r w'=>r = .tuple #[]∧PR l sz n0 b tp tc (takeQ l s S) w'∧GT mutP n0 w w':=by
 have hi:=h.hi;have hl:=h.hl;have g:=GT.refl mutP n0 w;refine WK 17 [0,1] Usb ?_;refine AU ?_;refine CL (Uka s h) ?_;rintro v6 w6 ⟨rfl,g6⟩;refine ⟨fun _=>g6,?_⟩;have g:=gtg g g6;have h:=h.grow (g6);refine IF (fun h1=>?_) fun h1=>?_;have hq:isQ l S s=false:=by simpa using h1
 have e:takeQ l s S=failQ S:=by unfold takeQ;rw [hq];rfl
 refine AU ?_;refine CL (Uaa h) ?_;rintro v9 w9 ⟨rfl,h,g9⟩;refine ⟨nw1,?_⟩;have g:=g.trans g9;refine RTN ?_;rw [e];exact ⟨rfl,h,g⟩;have hq:isQ l S s=true:=by simpa using h1
 have e:takeQ l s S=adv S:=by unfold takeQ;rw [hq];rfl
 have hlt:=(Vo hq hs).2;refine AU ?_;refine Ym O Va (Zc O) (Zc O) O h.B O O ?_;intro wS1 hgS1 _ BS;have g:=Wu g hgS1 h.B rfl h.hb;have h:=h.set (S':=adv S) hgS1 BS hlt;refine Ze (Qj O ?_);rw [e];exact ⟨rfl,h,g⟩
theorem Zua(s:List UInt8)(hs:s≠[])(h:PR l sz n0 b tp tc S w):Ret PP Qbb #[.pointer (some ⟨b,0,none⟩),Str s] w fun r w'=>r = .bool (isQ l S s)∧PR l sz n0 b tp tc (bif isQ l S s then adv S else S) w'∧GT mutP n0 w w':=by
 have hi:=h.hi;have hl:=h.hl;have g:=GT.refl mutP n0 w;refine WK 16 [0,1] Wib ?_;refine AU ?_;refine CL (Uka s h) ?_;rintro v7 w7 ⟨rfl,g7⟩;refine ⟨fun _=>g7,?_⟩;have g:=gtg g g7;have h:=h.grow (g7);refine IF (fun h1=>?_) fun h1=>?_;have hq:isQ l S s=false:=by simpa using h1
 refine RTN ?_;rw [hq];exact ⟨rfl,h,g⟩;have hq:isQ l S s=true:=by simpa using h1
 have hlt:=(Vo hq hs).2;refine AU ?_;refine Ym O Va (Zc O) (Zc O) O h.B O O ?_;intro wS1 hgS1 _ BS;have g:=Wu g hgS1 h.B rfl h.hb;have h:=h.set (S':=adv S) hgS1 BS hlt;refine RTN ?_;rw [hq];exact ⟨rfl,h,g⟩
theorem Uya(h:PR l sz n0 b tp tc S w):Ret PP Xec #[.pointer (some ⟨b,0,none⟩)] w fun r w'=>r=Str (nameQ l S).1∧PR l sz n0 b tp tc (nameQ l S).2 w'∧GT mutP n0 w w':=by
 have hi:=h.hi;have hl:=h.hl;have g:=GT.refl mutP n0 w;refine WK 27 [0] Uvb ?_;refine AU ?_;refine CL (Zec 1 0 (by omega) h) ?_;rintro v4 w4 ⟨rfl,g4⟩;refine ⟨fun _=>g4,?_⟩;have g:=gtg g g4;have h:=h.grow (g4);refine IF (fun h1=>?_) fun h1=>?_;have hq:isK l S 1 0=false:=by simpa using h1
 have e:nameQ l S=([],failQ S):=by unfold nameQ;rw [hq];rfl
 refine AU ?_;refine CL (Uaa h) ?_;rintro v7 w7 ⟨rfl,h,g7⟩;refine ⟨nw1,?_⟩;have g:=g.trans g7;refine RTN ?_;rw [e];exact ⟨rfl,h,g⟩;have hq:isK l S 1 0=true:=by simpa using h1
 have e:nameQ l S=((tkn l S.ix).text,adv S):=by unfold nameQ;rw [hq];rfl
 have hlt:=(Wid hq).2;refine AU ?_;refine Ym O Va (Zc O) (Zc O) O h.B O O ?_;intro wS1 hgS1 _ BS;have g:=Wu g hgS1 h.B rfl h.hb;have h:=h.set (S':=adv S) hgS1 BS hlt;have hat:=Utc h.ht S.ix hlt;refine Ze (kq (Zj (Xe [3,3,3,0,3,3,3,0,3,3,3,0,3] [true,true,true,true,true,true,true,true,true,true,true,true,true] [0,1,3,7,0,16,48,112,240,511,1023,2047,4095] mix (by kernel_rfl) ?_)));have g:=gtd g;have h:=h.grow (G.drew _);refine Zq O (Ql O (Yj Uo O (Yq Vl O (h.B.at_ O) (Zq O (Ql O (Yj Qn O (Yq Yd O (h.B.at_ O) (Zo O (fun _=>Jja (Zc O) Xg (fun _=>by show _≤((S.ix+1:Nat):Int)-1∧((S.ix+1:Nat):Int)-1≤_;omega)) (Zo O (fun _=>Yz Xf (Zc O) (Zc O) (fun hc=>by show (0:Int)≤((S.ix+1:Nat):Int)-1∧((S.ix+1:Nat):Int)-1<_;omega) (fun hc=>hat.1)) (Yj Qu O (Wea O (Zt Yg (Zc O) (fun hc=>by have:=(hat.2.one (i:=1) O);rw [show (((adv S).ix:Int)-1).toNat=S.ix by show (((S.ix+1:Nat):Int)-1).toNat=_;omega];exact this)) (Yo O (Ze (kq (Xd (Vy O O ?_))))))))))))))));rw [e];exact ⟨rfl,h,g⟩
theorem Yof(h:PR l sz n0 b tp tc S w):Ret PP Yqb #[.pointer (some ⟨b,0,none⟩)] w fun r w'=>r = .tuple #[]∧PR l sz n0 b tp tc (semiQ l S) w'∧GT mutP n0 w w':=by
 have hi:=h.hi;have hl:=h.hl;have g:=GT.refl mutP n0 w;refine WK 18 [0] Zhb ?_;refine AU ?_;refine Xe [3,1,3,3,3,3,0,3,3,3,0,3,3,3] [true,true,true,true,true,true,true,true,true,true,true,true,true,true] [0,1,3,7,15,31,63,7,135,391,903,1927,4095,8191] mix (by kernel_rfl) ?_;have g:=gtd g;have h:=h.grow (G.drew _);refine AU ?_;refine CL (Uka [125] h) ?_;rintro v3 w3 ⟨rfl,g3⟩;refine ⟨fun _=>g3,?_⟩;have g:=gtg g g3;have h:=h.grow (g3);refine IF (fun h1=>?_) fun h1=>?_;have e:semiQ l S=S:=by unfold semiQ;rw [h1];rfl
 refine Xd (Uje O ?_);rw [e];exact ⟨rfl,h,g⟩;have e:semiQ l S=takeQ l [59] S:=by unfold semiQ;rw [h1];rfl
 refine AU ?_;refine CL (Wj [59] (by decide) h) ?_;rintro v17 w17 ⟨rfl,h,g17⟩;refine ⟨nw1,?_⟩;have g:=g.trans g17;refine Ze (Qj O ?_);rw [e];exact ⟨rfl,h,g⟩
theorem Yug(s:List UInt8)(w:World):Ret PP Jod #[Str s] w fun r w'=>r = .int .i64 (levelQ s:Nat)∧G w w':=by
 have g:=G.refl w;refine WK 22 [0] Yod ?_;refine IF (fun h1=>?_) fun h1=>?_;skip;refine RTN ?_;unfold levelQ;rw [h1];exact ⟨rfl,g⟩;skip;refine IF (fun h2=>?_) fun h2=>?_;skip;refine RTN ?_;unfold levelQ;rw [h1,h2];exact ⟨rfl,g⟩;skip;refine AU ?_;refine' OR [2,3] (fun hb3=>?y3) (kq ?n3)
 case y3 =>
  refine AU ?_;refine' OR [2,3] (fun hb4=>?y4) knr
  case y4 =>
   refine AU ?_;refine' OR [2,3] (fun hb5=>?y5) knr
   case y5 =>
    refine AU ?_;refine' OR [2,3] (fun hb6=>?y6) knr
    case y6 =>
     refine AU ?_;refine' OR [2,3] (fun hb7=>?y7) knr
     case y7 =>
      refine AU ?_;refine SK [8,2,3] ?_;exact Ze knr
 case n3 =>
  refine IF (fun h8=>?_) fun h8=>?_;have e3:inB [[61,61],[33,61],[60],[60,61],[62],[62,61]] s=true:=by rw [← h8];simp [inB]
  refine RTN ?_;unfold levelQ;rw [h1,h2,e3];exact ⟨rfl,g⟩;have e3:inB [[61,61],[33,61],[60],[60,61],[62],[62,61]] s=false:=by rw [← h8];simp [inB]
  refine AU ?_;refine' OR [2,3] (fun hb9=>?y9) (kq ?n9)
  case y9 =>
   refine AU ?_;refine SK [15,2,3] ?_;exact Ze knr
  case n9 =>
   refine IF (fun h10=>?_) fun h10=>?_;have e4:inB [[43],[45]] s=true:=by rw [← h10];simp [inB]
   refine RTN ?_;unfold levelQ;rw [h1,h2,e3,e4];exact ⟨rfl,g⟩;have e4:inB [[43],[45]] s=false:=by rw [← h10];simp [inB]
   refine AU ?_;refine' OR [2] (fun hb11=>?y11) (kq ?n11)
   case y11 =>
    refine AU ?_;refine' OR [2] (fun hb12=>?y12) knr
    case y12 =>
     refine AU ?_;refine SK [18,2] ?_;exact Ze knr
   case n11 =>
    refine IF (fun h13=>?_) fun h13=>?_;have e5:inB [[42],[47],[37]] s=true:=by rw [← h13];simp [inB]
    refine RTN ?_;unfold levelQ;rw [h1,h2,e3,e4,e5];exact ⟨rfl,g⟩;have e5:inB [[42],[47],[37]] s=false:=by rw [← h13];simp [inB]
    refine RTN ?_;unfold levelQ;rw [h1,h2,e3,e4,e5];exact ⟨rfl,g⟩
end
set_option maxHeartbeats 1000000
section
variable {lo lo' n0 j b:Nat} {X:List Nat} {w w':World} {ks:List Nd} {v:Value}
theorem KdX.gtp(h:KdX lo X w ks v)(g:GT mutP n0 w w'):KdX lo X w' ks v:=Zma h (fun k hk _=>⟨hk.1,hk.2.gt g rfl⟩) fun k hk hlt=>g.block k hlt (.inr (hk.2.ntyr rfl))
end
section
variable {l:List Tok} {sz:Int} {n0 b tc:Nat} {tp:Option Addr} {S:PSt} {w w':World}
theorem PR.adv(h:PR l sz n0 b tp tc S w)(hg:w.grownBy w' (some b))(hB:Blk w' b Uv (pkCells l sz tp tc (adv S)))(hi:S.ix<l.length):PR l sz n0 b tp tc (adv S) w':=h.set hg hB hi
theorem PLt.num{T:PSt}(h:PLt l S T)(hS:S.ix≤l.length):remQ l T≤remQ l S∧(remQ l S=0∨remQ l T<remQ l S):=by
 obtain ⟨_,h2,h3⟩:=h hS;cases hb:S.bad;exact ⟨h2,.inr (h3 hb)⟩;exact ⟨h2,.inl (Vqc hb)⟩
theorem PLe.num{T:PSt}(h:PLe l S T)(hS:S.ix≤l.length):remQ l T≤remQ l S:=(h hS).2
theorem Uba(h:S.bad=false):1≤remQ l S:=by rw [Veb h];omega
theorem Uca:remQ l S≤l.length+1:=by
 unfold remQ;cases S.bad;show l.length-S.ix+1≤_;omega;exact Nat.zero_le _
theorem Uu{s:List UInt8}(h:isQ l S s=true)(hs:s≠[]):1≤remQ l S:=Uba (Vo h hs).1
end
def PkN(l:List Tok)(sz:Int)(m rk:Nat)(fn:FuncId)(a:List Value)(X:PSt→Nd×PSt):Prop:=∀ {n0 b tc:Nat} {tp:Option Addr} {S:PSt} {w:World},PR l sz n0 b tp tc S w→8*remQ l S+rk<m→
 Ret PP fn (Value.pointer (some ⟨b,0,none⟩)::a).toArray w fun r w'=>RetN (X S).1 w.heap.size r w'∧PR l sz n0 b tp tc (X S).2 w'∧GT mutP n0 w w'
def PkL(l:List Tok)(sz:Int)(m rk:Nat)(fn:FuncId)(a:List Value)(X:PSt→List Nd×PSt):Prop:=∀ {n0 b tc:Nat} {tp:Option Addr} {S:PSt} {w:World},PR l sz n0 b tp tc S w→(S.bad=true∨8*remQ l S+rk<m)→
 Ret PP fn (Value.pointer (some ⟨b,0,none⟩)::a).toArray w fun r w'=>KdN w.heap.size w' (X S).1 r∧PR l sz n0 b tp tc (X S).2 w'∧GT mutP n0 w w'
section
variable {l:List Tok} {sz:Int} {m rk:Nat} {fn:FuncId} {a:List Value} {n0 b tc:Nat} {tp:Option Addr} {S:PSt} {w:World}
theorem PkN.to{X:PSt→Nd×PSt}(H:PkN l sz m rk fn a X){m0:Nat}(Z:List Nat)(h:PR l sz n0 b tp tc S w)(hc:8*remQ l S+rk<m)(hZ:∀ j∈Z,j<w.heap.size)(hm:m0≤w.heap.size) :
 Ret PP fn (Value.pointer (some ⟨b,0,none⟩)::a).toArray w fun r w'=>(∃ p c,r=ndV (X S).1 (.slice p (X S).1.kids.length c)∧m0≤w.heap.size∧KdX w.heap.size Z w' (X S).1.kids (.slice p (X S).1.kids.length c))∧PR l sz n0 b tp tc (X S).2 w'∧GT mutP n0 w w' :=
 (H h hc).mono fun r w' hr=>by
 obtain ⟨⟨p,c,e,k⟩,h1,h2⟩:=hr;exact ⟨⟨p,c,e,hm,KdN.x k hZ⟩,h1,h2⟩
theorem PkL.to{X:PSt→List Nd×PSt}(H:PkL l sz m rk fn a X){m0:Nat}(Z:List Nat)(h:PR l sz n0 b tp tc S w)(hc:S.bad=true∨8*remQ l S+rk<m)(hZ:∀ j∈Z,j<w.heap.size)(hm:m0≤w.heap.size) :
 Ret PP fn (Value.pointer (some ⟨b,0,none⟩)::a).toArray w fun r w'=>(∃ p c,r = .slice p (X S).1.length c∧m0≤w.heap.size∧KdX w.heap.size Z w' (X S).1 (.slice p (X S).1.length c))∧PR l sz n0 b tp tc (X S).2 w'∧GT mutP n0 w w' :=
 (H h hc).mono fun r w' hr=>by
 obtain ⟨k,h1,h2⟩:=hr;obtain ⟨p,c,e,_⟩:=id k;subst e;exact ⟨⟨p,c,rfl,hm,KdN.x k hZ⟩,h1,h2⟩
end
section
variable {l:List Tok} {sz:Int}
theorem Yge:PkN l sz (8*l.length+100) 0 Wgc [] (typQ l sz):=by
 intro n0 b tc tp S w h _;have hi:=h.hi;have hl:=h.hl;have hlt:=h.lt;have g:=GT.refl mutP n0 w;refine WK 84 [0] Zpc ?_;refine AM fun _ _ ga _ g E=>?_;have h:=Ui h;refine Ze (kq (Zj (Zm (Zq O (CL (Vv h) ?_)))));rintro _ _ ⟨rfl,ga⟩;refine RC fun g E=>?_;have h:=Uk h;refine Zba Zu Xn (pqc O (pqc O pq0)) O O (AN fun _ _ ga _ g E=>?_);have h:=Ui h;refine AS fun _ ga Ca g E=>?_;have h:=Uc h;refine AU ?_;refine CL (Uxa 0 (by omega) h) ?_;rintro _ _ ⟨rfl,ga⟩;refine RC fun g E=>?_;have h:=Uk h;refine AU ?_;refine' OR [0,2,3,4,10] (fun hb1=>?y1) (kq ?n1)
 case y1 =>
  refine AU ?_;refine' OR [0,2,3,4,10] (fun hb2=>?y2) knr
  case y2 =>
   refine AU ?_;refine' OR [0,2,3,4,10] (fun hb3=>?y3) knr
   case y3 =>
    refine AU ?_;refine' OR [0,2,3,4,10] (fun hb4=>?y4) knr
    case y4 =>
     refine AU ?_;refine' OR [0,2,3,4,10] (fun hb5=>?y5) knr
     case y5 =>
      refine AU ?_;refine' OR [0,2,3,4,10] (fun hb6=>?y6) knr
      case y6 =>
       refine AU ?_;refine SK [13,0,2,3,4,10] ?_;exact Ze knr
 case n1 =>
  refine IF (fun h7=>?_) fun h7=>?_;have e7:inB [[105,110,116],[98,111,111,108],[109,117,116,101,120],[114,119,109,117,116,101,120],[103,114,111,117,112],[111,110,99,101],[97,116,111,109,105,99]] (peekQ l S 0)=true:=by rw [← h7];simp [inB]
  have hadv:=Yrg e7 (by decide);refine AS fun _ ga Ca g E=>?_;have h:=Uc h;refine AU ?_;refine Ym O Va (Zc O) (Zc O) O h.B O O ?_;intro wS3 hgS3 _ BS;replace E:=E.keepT hgS3 h.B rfl;have g:=Wu g hgS3 h.B rfl h.hb;have h:=h.adv hgS3 BS (by first|assumption|omega);refine AS fun _ ga Ca g E=>?_;have h:=Uc h;refine RTN ?_;have e:typQ l sz S=(mkN 7 (peekQ l S 0) 0 (offQ l sz S) [],adv S):=by unfold typQ;rw [e7];rfl
  rw [e];exact ⟨Zr (t:=mkN 7 (peekQ l S 0) 0 (offQ l sz S) []) rfl (Wv _ _),h,g⟩;have e7:inB [[105,110,116],[98,111,111,108],[109,117,116,101,120],[114,119,109,117,116,101,120],[103,114,111,117,112],[111,110,99,101],[97,116,111,109,105,99]] (peekQ l S 0)=false:=by rw [← h7];simp [inB]
  refine IF (fun h8=>?_) fun h8=>?_;have e8:isQ l S [42]=true:=h8;have hadv:=(Vo e8 (by decide)).2;refine AU ?_;refine Ym O Va (Zc O) (Zc O) O h.B O O ?_;intro wS5 hgS5 _ BS;replace E:=E.keepT hgS5 h.B rfl;have g:=Wu g hgS5 h.B rfl h.hb;have h:=h.adv hgS5 BS (by first|assumption|omega);refine AS fun _ ga Ca g E=>?_;have h:=Uc h;refine AU ?_;refine CL (Uya h) ?_;rintro _ _ ⟨rfl,h,ga⟩;refine RC fun g E=>?_;refine AS fun _ ga Ca g E=>?_;have h:=Uc h;refine AS fun _ ga Ca g E=>?_;have h:=Uc h;refine RTN ?_;have e:typQ l sz S=(mkN 8 (nameQ l (adv S)).1 0 (offQ l sz S) [],(nameQ l (adv S)).2):=by unfold typQ;rw [e7,e8];rfl
  rw [e];exact ⟨Zr (t:=mkN 8 (nameQ l (adv S)).1 0 (offQ l sz S) []) rfl (Wv _ _),h,g⟩;have e8:isQ l S [42]=false:=h8;refine IF (fun h9=>?_) fun h9=>?_;have e9:isQ l S [91]=true:=h9;have hadv:=(Vo e9 (by decide)).2;refine AU ?_;refine Ym O Va (Zc O) (Zc O) O h.B O O ?_;intro wS9 hgS9 _ BS;replace E:=E.keepT hgS9 h.B rfl;have g:=Wu g hgS9 h.B rfl h.hb;have h:=h.adv hgS9 BS (by first|assumption|omega);refine AU ?_;refine CL (Wj [93] (by decide) h) ?_;rintro _ _ ⟨rfl,h,ga⟩;refine RC fun g E=>?_;refine AU ?_;refine CL (Wj [105,110,116] (by decide) h) ?_;rintro _ _ ⟨rfl,h,ga⟩;refine RC fun g E=>?_;refine AS fun _ ga Ca g E=>?_;have h:=Uc h;refine AS fun _ ga Ca g E=>?_;have h:=Uc h;refine RTN ?_;have e:typQ l sz S=(mkN 7 [91,93,105,110,116] 0 (offQ l sz S) [],takeQ l [105,110,116] (takeQ l [93] (adv S))):=by unfold typQ;rw [e7,e8,e9];rfl
  rw [e];exact ⟨Zr (t:=mkN 7 [91,93,105,110,116] 0 (offQ l sz S) []) rfl (Wv _ _),h,g⟩;have e9:isQ l S [91]=false:=h9;refine IF (fun h10=>?_) fun h10=>?_;have e10:isQ l S [99,104,97,110]=true:=h10;have hadv:=(Vo e10 (by decide)).2;refine AU ?_;refine Ym O Va (Zc O) (Zc O) O h.B O O ?_;intro wS12 hgS12 _ BS;replace E:=E.keepT hgS12 h.B rfl;have g:=Wu g hgS12 h.B rfl h.hb;have h:=h.adv hgS12 BS (by first|assumption|omega);refine AU ?_;refine CL (Wj [105,110,116] (by decide) h) ?_;rintro _ _ ⟨rfl,h,ga⟩;refine RC fun g E=>?_;refine AS fun _ ga Ca g E=>?_;have h:=Uc h;refine AS fun _ ga Ca g E=>?_;have h:=Uc h;refine RTN ?_;have e:typQ l sz S=(mkN 7 [99,104,97,110] 0 (offQ l sz S) [],takeQ l [105,110,116] (adv S)):=by unfold typQ;rw [e7,e8,e9,e10];rfl
  rw [e];exact ⟨Zr (t:=mkN 7 [99,104,97,110] 0 (offQ l sz S) []) rfl (Wv _ _),h,g⟩;have e10:isQ l S [99,104,97,110]=false:=h10;refine IF (fun h11=>?_) fun h11=>?_;have e11:isQ l S [102,117,110,99]=true:=h11;have hadv:=(Vo e11 (by decide)).2;refine AU ?_;refine Ym O Va (Zc O) (Zc O) O h.B O O ?_;intro wS15 hgS15 _ BS;replace E:=E.keepT hgS15 h.B rfl;have g:=Wu g hgS15 h.B rfl h.hb;have h:=h.adv hgS15 BS (by first|assumption|omega);refine AU ?_;refine CL (Wj [40] (by decide) h) ?_;rintro _ _ ⟨rfl,h,ga⟩;refine RC fun g E=>?_;refine AU ?_;refine CL (Wj [41] (by decide) h) ?_;rintro _ _ ⟨rfl,h,ga⟩;refine RC fun g E=>?_;refine AS fun _ ga Ca g E=>?_;have h:=Uc h;refine AS fun _ ga Ca g E=>?_;have h:=Uc h;refine RTN ?_;have e:typQ l sz S=(mkN 7 [102,117,110,99] 0 (offQ l sz S) [],takeQ l [41] (takeQ l [40] (adv S))):=by unfold typQ;rw [e7,e8,e9,e10,e11];rfl
  rw [e];exact ⟨Zr (t:=mkN 7 [102,117,110,99] 0 (offQ l sz S) []) rfl (Wv _ _),h,g⟩;have e11:isQ l S [102,117,110,99]=false:=h11;refine AU ?_;refine CL (Uaa h) ?_;rintro _ _ ⟨rfl,h,ga⟩;refine RC fun g E=>?_;refine AS fun _ ga Ca g E=>?_;have h:=Uc h;refine RTN ?_;have e:typQ l sz S=(mkN 7 [] 0 (offQ l sz S) [],failQ S):=by unfold typQ;rw [e7,e8,e9,e10,e11];rfl
  rw [e];exact ⟨Zr (t:=mkN 7 [] 0 (offQ l sz S) []) rfl (Wv _ _),h,g⟩
theorem Wld:PkN l sz (8*l.length+100) 0 Zoc [] (fieldQ l sz):=by
 intro n0 b tc tp S w h hm;have hi:=h.hi;have hl:=h.hl;have hlt:=h.lt;have hn1:=(Jw (l:=l) S).num hi;have g:=GT.refl mutP n0 w;refine WK 15 [0] Vpb ?_;refine AM fun b2 _ ga _ g E=>?_;have h:=Ui h;refine Ze (kq (Zj (Zm (Zq O (CL (Vv h) ?_)))));rintro _ _ ⟨rfl,ga⟩;refine RC fun g E=>?_;have h:=Uk h;refine Zba Zu Xn (pqc O (pqc O pq0)) O O (AN fun b3 _ ga _ g E=>?_);have h:=Ui h;refine AS fun _ ga Ca g E=>?_;have h:=Uc h;refine AU ?_;refine CL (Uya h) ?_;rintro _ _ ⟨rfl,h,ga⟩;refine RC fun g E=>?_;refine AS fun _ ga Ca g E=>?_;have h:=Uc h;refine AU ?_;refine CL (PkN.to (Yge) [b2,b3] h (by omega) (E.ltm (by simp [selB])) g.size) ?_;rintro _ _ ⟨⟨p11,c11,rfl,q11,k11⟩,h,ga⟩;refine RC fun g E=>?_;refine CN fun _ _ ga l12 g E=>?_;have k11:=Uj k11;have h:=Ui h;refine AS fun _ ga Ca g E=>?_;have h:=Uc h;have k11:=Ua k11;refine AS fun _ ga Ca g E=>?_;have h:=Uc h;have k11:=Ua k11;refine RTN ?_;exact ⟨Zr (t:=mkN 3 (nameQ l S).1 0 (offQ l sz S) [_]) rfl (Xk (ks:=[_]) ⟨l12,Xa E.g0⟩ E.g0.row (Yc (k11.kdN q11)) (Nat.le_refl _)),h,g⟩
theorem Vef:PkN l sz (8*l.length+100) 0 Uxb [] (paramsQ l sz):=by
 intro n0 b tc tp S w h hm;have hi:=h.hi;have hl:=h.hl;have hlt:=h.lt;have hm1:=(Wx (l:=l) (s:=[40]) (by decide) S).num hi;have g:=GT.refl mutP n0 w;refine WK 31 [0] Wdb ?_;refine AM fun b2 _ ga _ g E=>?_;have h:=Ui h;refine Ze (kq (Zj (Zm (Zq O (CL (Vv h) ?_)))));rintro _ _ ⟨rfl,ga⟩;refine RC fun g E=>?_;have h:=Uk h;refine Zba Zu Xn (pqc O (pqc O pq0)) O O (AN fun b3 _ ga _ g E=>?_);have h:=Ui h;refine AS fun _ ga Ca g E=>?_;have h:=Uc h;refine AU ?_;refine CL (Wj [40] (by decide) h) ?_;rintro _ _ ⟨rfl,h,ga⟩;refine RC fun g E=>?_;refine AU ?_;refine CL (Zua [41] (by decide) h) ?_;rintro _ w10 ⟨rfl,h,ga⟩;refine RC fun g E=>?_;refine IF (fun h1=>?_) fun h1=>?_;have e1:isQ l (takeQ l [40] S) [41]=true:=h1;rw [e1] at h;refine AS fun _ ga Ca g E=>?_;have h:=Uc h;refine RTN ?_;have e:paramsQ l sz S=(mkN 5 [] 0 (offQ l sz S) [],adv (takeQ l [40] S)):=by unfold paramsQ;dsimp only;rw [e1];rfl
 rw [e];exact ⟨Zr (t:=mkN 5 [] 0 (offQ l sz S) []) rfl (Wv _ _),h,g⟩;have e1:isQ l (takeQ l [40] S) [41]=false:=h1;rw [e1] at h;replace h:PR l sz n0 b tp tc (takeQ l [40] S) w10:=h;have hO:OwnN [b2,b3] w.heap.size w10 [] (.slice none 0 0):=Wma _ _ _
 have ef:paramsQ l sz S=(mkN 5 [] 0 (offQ l sz S) (fldL l sz (l.length+1) [(fieldQ l sz (takeQ l [40] S)).1] (fieldQ l sz (takeQ l [40] S)).2).1,takeQ l [41] (fldL l sz (l.length+1) [(fieldQ l sz (takeQ l [40] S)).1] (fieldQ l sz (takeQ l [40] S)).2).2):=by
  unfold paramsQ;dsimp only;rw [e1];rfl
 refine AU ?_;refine Xu (gtP n0) [3,0,3,1,1,2,3,2] [0,1,0,4,12,31,63,127] mix (by kernel_rfl) [0,1,2,3,4,5,6,7] O ?_;have g:=gtd g;replace E:=E.dr;have h:=h.grow (G.drew _);have hO:=hO.grow (G.drew _);refine Zx 0 O O (fun _=>Zn Zg (Zc O)) (Wf 1 O O (fun w1 hx=>Zt Zf (Zc O) (fun _=>(E.g0.gt hx O).at_ O)) (Zx 2 O O (fun _=>Zl (Zc O)) (Zv 3 O O ?_)));refine Zw (L':=[4,5,6,7]) [3,0,3,2,1,2,3,2] O O O ?_;refine CL (PkN.to (Wld) [b2,b3] h (by omega) (E.ltm (by simp [selB])) g.size) ?_;rintro v15 w15 ⟨⟨p15,c15,rfl,q15,k15⟩,h,g15⟩;refine ⟨nw1,?_⟩;have g:=g.trans g15;replace E:=E.gt g15 rfl;have hO:=hO.gt g15 rfl;refine Yi (g15) ?_;refine Zv 4 O O ?_;refine Zw (L':=[5,6,7]) [3,0,3,2,1,2,3,2] O O O ?_;refine CN fun _ _ N16 _ g E=>?_;have k15:=k15.new N16;have h:=h.grow (N16.g);have hO:=hO.grow (N16.g);refine Yi (GT.of_g (N16.g)) ?_;refine Zv 5 O O ?_;refine Yf (L':=[6,7]) [3,0,3,2,1,2,3,2] O O O O ?_;have hOo:=hO;refine Xx O Zd Zu O (Zc O) hO (Zc O) O E.g0.row (Qg k15 q15 (by intro j hj;simp at hj ⊢;omega) (fun j hj=>by cases hj)) (by simp) (by have:=g.size;omega) ⟨by have:=g.size;omega,by have q2:=E.g2.lt;have q3:=E.g1.lt;simp;omega⟩ ?_;intro a17 c17 w17 hO hg17;replace E:=E.sel [false,true,true];replace E:=E.keepX hg17 hOo.ne (by simp [selB]);have g:=Ww g hg17 (fun k hk=>hOo.ge k hk);have h:=h.keepO hg17 hOo;refine Yx ?_;refine Zx 6 O O (fun _=>Zn Zg (Zc O)) (Zv 7 O O ?_);refine Yf (L':=[]) [3,0,3,2,1,2,3,2] O O O O ?_;refine AS fun _ ga Ca g E=>?_;have h:=Uc h;have hO:=Ua hO;refine Yx ?_;refine TK [0,2,3] ?_;refine AU ?_;have hnd1:=E.1
 refine We (fun (y:Nat×List Nd×PSt) u1=>match y with|⟨f,acc,T⟩=>(PR l sz n0 b tp tc T u1∧fldL l sz f acc T=fldL l sz (l.length+1) [(fieldQ l sz (takeQ l [40] S)).1] (fieldQ l sz (takeQ l [40] S)).2∧remQ l T≤f∧acc.length+f≤l.length+2∧remQ l T≤remQ l S∧∃ s,Blk u1 b3 Ys (ndCells (mkN 5 [] 0 (offQ l sz S) []) s)∧OwnN [b2,b3] w.heap.size u1 acc s)∧GT mutP n0 w u1) _ [(0,True,_),(2,True,_),(3,True,_)] (fun (y:Nat×List Nd×PSt)=>match y with|⟨f,acc,T⟩=>[]) (fun (y:Nat×List Nd×PSt)=>match y with|⟨f,acc,T⟩=>f) ((l.length+1,[(fieldQ l sz (takeQ l [40] S)).1],(fieldQ l sz (takeQ l [40] S)).2)) ⟨⟨h,rfl,by have:=(Vfa (sz:=sz) (takeQ l [40] S)).le.num (Wx (l:=l) (s:=[40]) (by decide) S hi).1;have:=Uca (S:=S) (l:=l);omega,by simp;omega,by have:=(Vfa (sz:=sz) (takeQ l [40] S)).le.num (Wx (l:=l) (s:=[40]) (by decide) S hi).1;omega,_,E.g0,hO⟩,g⟩ (Zs (blkE E.g1) (Yh _)) (Za O (Za O (Za O (Zp _)))) ?_;clear E;rintro ⟨f,acc,T⟩ u1 ⟨hI1,gl1⟩ ⟨B2,_⟩;replace B2:Blk _ _ _ _:=B2;have g:=gl1;obtain ⟨h,he,hf,hac,hrm,s,B3,hO⟩:=hI1;obtain ⟨sa,sc,rfl⟩:=hO.slice;have E:=Zha (L:=[(b3,_,_),(b2,_,_)]) hnd1 ⟨B3,B2,trivial⟩ rfl;refine AU ?_;refine CL (Zua [44] (by decide) h) ?_;rintro _ _ ⟨rfl,h,ga⟩;refine RC fun g E=>?_;have hO:=hO.gt ga rfl;refine IF (fun h2=>?_) fun h2=>?_;have e2:isQ l T [44]=true:=h2;rw [e2] at h;have hT:=h.hi;replace h:PR l sz n0 b tp tc (adv T) _:=h;have hr:=Uu e2 (by decide);obtain ⟨f',rfl⟩:∃ f',f=f'+1:=⟨f-1,by omega⟩;rw [fldL,e2,cond_true] at he;have hn2:=(Xv e2 (by decide)).num (show T.ix≤l.length from Nat.le_of_succ_le hT);have hn3:=(Vfa (sz:=sz) (adv T)).le.num h.hi;have hOlt:=hO.lt
 refine AU ?_;refine Xu (gtP n0) [3,0,3,1,1,2,3,2] [0,1,0,4,12,31,63,127] mix (by kernel_rfl) [0,1,2,3,4,5,6,7] O ?_;have g:=gtd g;replace E:=E.dr;have h:=h.grow (G.drew _);have hO:=hO.grow (G.drew _);refine Zx 0 O O (fun _=>Zn Zg (Zc O)) (Wf 1 O O (fun w1 hx=>Zt Zf (Zc O) (fun _=>(E.g0.gt hx O).at_ O)) (Zx 2 O O (fun _=>Zl (Zc O)) (Zv 3 O O ?_)));refine Zw (L':=[4,5,6,7]) [3,0,3,2,1,2,3,2] O O O ?_;refine CL (PkN.to (Wld) [b2,b3] h (by omega) (E.ltm (by simp [selB])) g.size) ?_;rintro v24 w24 ⟨⟨p24,c24,rfl,q24,k24⟩,h,g24⟩;refine ⟨nw1,?_⟩;have g:=g.trans g24;replace E:=E.gt g24 rfl;have hO:=hO.gt g24 rfl;refine Yi (g24) ?_;refine Zv 4 O O ?_;refine Zw (L':=[5,6,7]) [3,0,3,2,1,2,3,2] O O O ?_;refine CN fun _ _ N25 _ g E=>?_;have k24:=k24.new N25;have h:=h.grow (N25.g);have hO:=hO.grow (N25.g);refine Yi (GT.of_g (N25.g)) ?_;refine Zv 5 O O ?_;refine Yf (L':=[6,7]) [3,0,3,2,1,2,3,2] O O O O ?_;have hOo:=hO;refine Xx O Zd Zu O (Zc O) hO (Zc O) O E.g0.row (Qg k24 q24 (by intro j hj;simp at hj ⊢;omega) (fun j hj=>.inr (hOlt j hj))) (by simp;omega) (by have:=g.size;omega) ⟨by have:=g.size;omega,by have q2:=E.g2.lt;have q3:=E.g1.lt;simp;omega⟩ ?_;intro a26 c26 w26 hO hg26;replace E:=E.sel [false,true,true];replace E:=E.keepX hg26 hOo.ne (by simp [selB]);have g:=Ww g hg26 (fun k hk=>hOo.ge k hk);have h:=h.keepO hg26 hOo;refine Yx ?_;refine Zx 6 O O (fun _=>Zn Zg (Zc O)) (Zv 7 O O ?_);refine Yf (L':=[]) [3,0,3,2,1,2,3,2] O O O O ?_;refine AS fun _ ga Ca g E=>?_;have h:=Uc h;have hO:=Ua hO;refine Yx ?_;refine TK [0,2,3] ?_;refine Qk (fun a ha=>?_)
 exact ⟨(f',acc++[(fieldQ l sz (adv T)).1],(fieldQ l sz (adv T)).2),ha,⟨⟨h,he,by omega,by simp;omega,by omega,_,E.g0,hO⟩,g⟩,(Zs (blkE E.g1) (Yh _)),by show f'<f'+1;omega⟩;have e2:isQ l T [44]=false:=h2;rw [e2] at h;replace h:PR l sz n0 b tp tc T _:=h
 have he:(acc,T)=fldL l sz (l.length+1) [(fieldQ l sz (takeQ l [40] S)).1] (fieldQ l sz (takeQ l [40] S)).2:=by
  rw [← he]
  cases f with
  | zero=>rfl
  | succ f'=>rw [fldL,e2];rfl
 refine AU ?_;refine CL (Wj [41] (by decide) h) ?_;rintro _ _ ⟨rfl,h,ga⟩;refine RC fun g E=>?_;have hO:=hO.gt ga rfl;refine AS fun _ ga Ca g E=>?_;have h:=Uc h;have hO:=Ua hO;refine RTN ?_;rw [ef,← he];exact ⟨Zr (t:=mkN 5 [] 0 (offQ l sz S) acc) rfl hO.kd,h,g⟩
end
end Go.Rk
